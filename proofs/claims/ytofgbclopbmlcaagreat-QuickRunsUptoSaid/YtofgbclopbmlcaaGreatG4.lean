/- Part 4 of the proof. Conditions: none. -/
import Derived.Test.YtofgbclopbmlcaaGreatG3
import Derived.Laws.CopyRow
import Derived.Laws.Entries
import Derived.Laws.MakeOwn
namespace Go.Fw
set_option linter.unusedVariables false
set_option linter.unusedSimpArgs false
theorem Qfl(us:List Nat):∀(H:Nat→Option Blk) (b:Nat),Qf5 H (us.map fun u=>(u,none)) b=if b∈us then none else H b:=by
 induction us with
 |nil=>intro H b;rfl
 |cons u us ih =>
  intro H b;simp only[List.map_cons,Qf5,ih];by_cases h:b=u
  ·subst h;simp
  ·simp[h]
theorem QmT(a c:List (Nat×Option Blk)):∀(H:Nat→Option Blk),Qf5 H (a++c)=Qf5 (Qf5 H a) c:=by
 induction a with
 |nil=>intro H;rfl
 |cons x a ih=>intro H;obtain⟨b,o⟩:=x;simp only[List.cons_append,Qf5];exact ih _
def QK(E:Env)(us:List Nat):Env:={ E with S:=SU E us,H:=fun b=>if b∈us then none else E.H b }
theorem Q8{E:Env}(us:List Nat):Ext E (QK E us):=by
 refine⟨fun g hg=>⟨.inl hg,rfl⟩,fun _ h=>h,fun b x' _ hx=>?_⟩;by_cases hb:b∈us
 ·simp[QK,hb] at hx
 ·simp only[QK,hb,if_false] at hx;exact⟨x',hx,rfl,rfl,fun g cs el _ h=>⟨cs,h,rfl⟩⟩
theorem QaR{E:Env}(hH:HeapOk E){b g:Nat}{x:Blk}(hx:E.H b=some x)(hr:E.ρ b=some g):g<E.w.heap.size∧∃o,E.w.heap[g]?=some o:=by
 have key:∃o,E.w.heap[g]?=some o:=by
  obtain⟨_,hb,_⟩:=hH.blk b x hx;cases x with
  |arr t l =>
   rcases hb with⟨h,_⟩|⟨g',cs,el,us,spare,h1,h2,_⟩
   ·rw[hr] at h;cases h
   ·rw[hr] at h1;injection h1 with h1;subst h1;exact⟨_,h2⟩
  |var is =>
   obtain⟨g',cs,el,h1,h2,_⟩:=hb;rw[hr] at h1;injection h1 with h1;subst h1;exact⟨_,h2⟩
  |mp ka kt vt l =>
   obtain⟨g',es,c,h1,h2,_⟩:=hb;rw[hr] at h1;injection h1 with h1;subst h1;exact⟨_,h2⟩
 obtain⟨o,h⟩:=key;exact⟨(Array.getElem?_eq_some_iff.1 h).1,o,h⟩
theorem Qoc.ext{E E':Env}(h:Ext E E'){b:Nat}{x:Blk}(hr:E'.ρ b=E.ρ b)(hw:∀g,E.ρ b=some g→E'.w.heap[g]?=E.w.heap[g]?)(hb:Qoc E b x):Qoc E' b x:=by
 cases x with
 |arr t l =>
  rcases hb with⟨h1,h2⟩|⟨g,cs,el,us,spare,h1,h2,h3,h4⟩
  ·exact .inl ⟨hr.trans h1,h2⟩
  ·exact .inr ⟨g,cs,el,us,spare,hr.trans h1,(hw g h1).trans h2,h3,h4.mono fun _ _ hx=>hx.mono h.S⟩
 |var is =>
  obtain⟨g,cs,el,h1,h2,h3⟩:=hb;exact⟨g,cs,el,hr.trans h1,(hw g h1).trans h2,h3.ext h⟩
 |mp ka kt vt l =>
  obtain⟨g,es,c,h1,h2,h3⟩:=hb;exact⟨g,es,c,hr.trans h1,(hw g h1).trans h2,h3⟩
theorem Qfm{E:Env}(hH:HeapOk E)(us:List Nat):HeapOk (QK E us):=by
 have hx':∀b x,(QK E us).H b=some x→b∉us∧E.H b=some x:=by
  intro b x hx;by_cases hb:b∈us
  ·simp[QK,hb] at hx
  ·exact⟨hb,by simpa[QK,hb] using hx⟩
 refine⟨fun b x hx=>?_,fun b b' x x' g hx hx'' hr hr'=>?_,fun g hg=>?_⟩
 ·obtain⟨hn,hx⟩:=hx' b x hx;obtain⟨h1,h2,h3⟩:=hH.blk b x hx;refine⟨h1,h2.ext (Q8 us) rfl (fun _ _=>rfl),fun g hg hs=>?_⟩;rcases hs with hs|⟨u,y,hu,hy,hr⟩
  ·exact h3 g hg hs
  ·exact hn (hH.inj b u x y g hx hy hg hr ▸ hu)
 ·exact hH.inj b b' x x' g (hx' b x hx).2 (hx' b' x' hx'').2 hr hr'
 ·rcases hg with hg|⟨u,y,hu,hy,hr⟩
  ·exact hH.st g hg
  ·exact(QaR hH hy hr).1
theorem Qfn{E:Env}(us:List Nat){F:Frame}(h:FrameOk F E):FrameOk F (QK E us):=by
 refine⟨h.os,h.tape,h.output,h.size,h.old,fun b x g hx hr=>?_,fun g hg=>?_⟩
 ·by_cases hb:b∈us
  ·simp[QK,hb] at hx
  ·exact h.own b x g (by simpa[QK,hb] using hx) hr
 ·rcases hg with hg|⟨u,y,hu,hy,hr⟩
  ·exact h.S g hg
  ·exact .inr (h.own u y g hy hr)
def QbN(E:Env)(nm:Nat)(blk:Blk)(w':World):Env :=
 { w:=w',ρ:=fun b=>if b=nm then some E.w.heap.size else E.ρ b,S:=E.S,H:=fun b=>if b=nm then some blk else E.H b,U:=fun b=>E.U b∨b=nm }
theorem Qcb{w w':World}{o:Obj}(hw:w'.heap=w.heap.push o){g:Nat}(h:g<w.heap.size):w'.heap[g]?=w.heap[g]?:=by
 rw[hw,Array.getElem?_push,if_neg (by omega)]
theorem QgQ{w w':World}{o:Obj}(hw:w'.heap=w.heap.push o):w'.heap[w.heap.size]?=some o:=by
 rw[hw,Array.getElem?_push,if_pos rfl]
theorem QjH{E:Env}(hH:HeapOk E){nm:Nat}(hnm:¬E.U nm){blk:Blk}{w':World}{o:Obj}(hw:w'.heap=E.w.heap.push o):Ext E (QbN E nm blk w'):=by
 refine⟨fun g hg=>⟨hg,Qcb hw (hH.st g hg)⟩,fun b hb=>.inl hb,fun b x' hb hx=>?_⟩;have hne:b≠nm:=fun e=>hnm (e ▸ hb)
 simp only[QbN,hne,if_false] at hx;refine⟨x',hx,by simp[QbN,hne],rfl,fun g cs el hr hc=>⟨cs,?_,rfl⟩⟩;rw[show(QbN E nm blk w').w=w' from rfl,Qcb hw (Array.getElem?_eq_some_iff.1 hc).1];exact hc
def Holds(E:Env):Blk→List Value→Prop
 |.arr t l,vs=>∃us spare,vs=us++spare∧Qu (CR E.w E.S t) l us
 |.var is,vs=>IR E is vs
 |.mp _ _ _ _,_=>False
theorem QBo{E:Env}(hH:HeapOk E){nm:Nat}(hnm:¬E.U nm){blk:Blk}{w':World}{cs:Array Value}{el:TypeId}(hw:w'.heap=E.w.heap.push (.cells cs el))(hb:Holds E blk cs.toList):HeapOk (QbN E nm blk w'):=by
 have hext:=QjH hH hnm (blk:=blk) hw;refine⟨fun b x hx=>?_,fun b b' x x' g hx hx' hr hr'=>?_,fun g hg=>?_⟩
 ·by_cases h:b=nm
  ·subst h;simp only[QbN,if_true,Option.some.injEq] at hx;subst hx;refine⟨.inr rfl,?_,fun g hg hs=>?_⟩
   ·cases blk with
    |arr t l =>
     obtain⟨us,spare,h1,h2⟩:=hb;exact .inr ⟨_,cs,el,us,spare,by simp[QbN],QgQ hw,h1,h2.mono fun _ _ hx=>hx.mono hext.S⟩
    |var is=>exact⟨_,cs,el,by simp[QbN],QgQ hw,hb.ext hext⟩
    |mp ka kt vt l=>exact hb.elim
   ·simp only[QbN,if_true,Option.some.injEq] at hg;have:=hH.st g hs;omega
  ·simp only[QbN,h,if_false] at hx;obtain⟨h1,h2,h3⟩:=hH.blk b x hx;refine⟨.inl h1,h2.ext hext (by simp[QbN,h]) (fun g hg=>Qcb hw (QaR hH hx hg).1),fun g hg=>h3 g (by simpa[QbN,h] using hg)⟩
 ·by_cases h:b=nm<;>by_cases h':b'=nm
  ·rw[h,h']
  ·simp only[QbN,h,h',if_true,if_false,Option.some.injEq] at hx hx' hr hr';have:=(QaR hH hx' hr').1;omega
  ·simp only[QbN,h,h',if_true,if_false,Option.some.injEq] at hx hx' hr hr';have:=(QaR hH hx hr).1;omega
  ·simp only[QbN,h,h',if_false] at hx hx' hr hr';exact hH.inj b b' x x' g hx hx' hr hr'
 ·rw[show(QbN E nm blk w').w=w' from rfl,hw];have:=hH.st g hg;simp;omega
theorem Qsk{E:Env}(hH:HeapOk E){nm:Nat}{blk:Blk}{w':World}{o:Obj}(hw:w'.heap=E.w.heap.push o)(h1:w'.os=E.w.os)(h2:w'.tape=E.w.tape)(h3:w'.output=E.w.output){F:Frame}(h:FrameOk F E):FrameOk F (QbN E nm blk w'):=by
 refine⟨h1.trans h.os,h2.trans h.tape,h3.trans h.output,?_,fun g hg ho=>?_,fun b x g hx hr=>?_,h.S⟩
 ·rw[show(QbN E nm blk w').w=w' from rfl,hw];have:=h.size;simp;omega
 ·rw[show(QbN E nm blk w').w=w' from rfl,Qcb hw (by have:=h.size;omega)];exact h.old g hg ho
 ·by_cases hb:b=nm
  ·subst hb;simp only[QbN,if_true,Option.some.injEq] at hr;have:=h.size;exact .inl (by omega)
  ·simp only[QbN,hb,if_false] at hx hr;exact h.own b x g hx hr
theorem Step.newK{E:Env}{r:Res}{nm:Nat}{us:List Nat}{blk:Blk}{w':World}{cs:Array Value}{el:TypeId}(hH:HeapOk E)(hr1:r.add=[blk])(hr2:r.set=us.map fun u=>(u,none))(hnm:¬E.U nm)
 (hw:w'.heap=E.w.heap.push (.cells cs el)) (h1:w'.os=E.w.os) (h2:w'.tape=E.w.tape) (h3:w'.output=E.w.output) (hb:Holds (QK E us) blk cs.toList):Step E r nm (QbN (QK E us) nm blk w'):=by
 have hk:=Qfm hH us;refine⟨(Q8 us).trans (QjH hk hnm hw),QBo hk hnm hw hb,fun b=>?_,fun b=>?_,fun F hF=>Qsk hk hw h1 h2 h3 (Qfn us hF)⟩
 ·rw[hr1,hr2];simp only[addF,QbN,QK,Qfl]
 ·rw[hr1];simp only[QbN,QK,List.length_singleton];constructor
  ·rintro (h|h)
   ·exact .inl h
   ·exact .inr (by omega)
  ·rintro (h|h)
   ·exact .inl h
   ·exact .inr (by omega)
def Qed(E:Env)(b:Nat)(blk:Blk)(w':World):Env:={ E with w:=w',H:=fun x=>if x=b then some blk else E.H x }
structure Writes(E:Env)(g:Nat)(cs cs':Array Value)(el:TypeId)(w':World):Prop where
 was:E.w.heap[g]?=some (.cells cs el (0,0))
 is:w'.heap[g]?=some (.cells cs' el (0,0))
 len:cs'.size=cs.size
 oth:∀i,i≠g→w'.heap[i]?=E.w.heap[i]?
 size:w'.heap.size=E.w.heap.size
 os:w'.os=E.w.os
 tape:w'.tape=E.w.tape
 output:w'.output=E.w.output
theorem Qee{E:Env}(hH:HeapOk E){b g:Nat}{x blk:Blk}{cs cs':Array Value}{el:TypeId}{w':World}(hx:E.H b=some x)(hr:E.ρ b=some g)(hsh:shape blk=shape x)(hw:Writes E g cs cs' el w'):Ext E (Qed E b blk w'):=by
 have hns:∀i,E.S i→i≠g:=fun i hi e=>(hH.blk b x hx).2.2 g hr (e ▸ hi)
 refine⟨fun i hi=>⟨hi,hw.oth i (hns i hi)⟩,fun _ h=>h,fun c y hc hy=>?_⟩;by_cases h:c=b
 ·subst h;simp only[Qed,if_true,Option.some.injEq] at hy;subst hy;refine⟨x,hx,rfl,hsh,fun g' cs0 el0 hr' hc0=>?_⟩;rw[hr] at hr';injection hr' with hr';subst hr'
  rw[hw.was] at hc0;injection hc0 with hc0
  injection hc0 with e1 e2
  subst e1 e2;exact⟨cs',hw.is,hw.len⟩
 ·simp only[Qed,h,if_false] at hy;refine⟨y,hy,rfl,rfl,fun g' cs0 el0 hr' hc0=>⟨cs0,?_,rfl⟩⟩;have:g'≠g:=fun e=>h (hH.inj c b y x g hy hx (e ▸ hr') hr)
  exact(hw.oth g' this).trans hc0
theorem QmU{E:Env}(hH:HeapOk E){b g:Nat}{x blk:Blk}{cs cs':Array Value}{el:TypeId}{w':World}(hx:E.H b=some x)(hr:E.ρ b=some g)(hsh:shape blk=shape x)(hw:Writes E g cs cs' el w')(hb:Holds E blk cs'.toList):HeapOk (Qed E b blk w'):=by
 have hext:=Qee hH hx hr hsh hw
 have hlive:∀c y,(Qed E b blk w').H c=some y→∃y0,E.H c=some y0:=by
  intro c y hy;by_cases h:c=b
  ·exact⟨x,h ▸ hx⟩
  ·exact⟨y,by simpa[Qed,h] using hy⟩
 refine⟨fun c y hy=>?_,fun c c' y y' i hy hy' hr1 hr2=>?_,fun i hi=>?_⟩
 ·by_cases h:c=b
  ·subst h;simp only[Qed,if_true,Option.some.injEq] at hy;subst hy;obtain⟨h1,h2,h3⟩:=hH.blk c x hx;refine⟨h1,?_,h3⟩;cases blk with
   |arr t l =>
    obtain⟨us,spare,e1,e2⟩:=hb;exact .inr ⟨g,cs',el,us,spare,hr,hw.is,e1,e2.mono fun _ _ hx=>hx.mono hext.S⟩
   |var is=>exact⟨g,cs',el,hr,hw.is,hb.ext hext⟩
   |mp ka kt vt l=>exact hb.elim
  ·simp only[Qed,h,if_false] at hy;obtain⟨h1,h2,h3⟩:=hH.blk c y hy;exact⟨h1,h2.ext hext rfl (fun g' hg'=>hw.oth g' fun e=>h (hH.inj c b y x g hy hx (e ▸ hg') hr)),h3⟩
 ·obtain⟨y0,h0⟩:=hlive c y hy;obtain⟨y1,h1⟩:=hlive c' y' hy';exact hH.inj c c' y0 y1 i h0 h1 hr1 hr2
 ·rw[show(Qed E b blk w').w=w' from rfl,hw.size];exact hH.st i hi
theorem QmV{E:Env}(hH:HeapOk E){b g:Nat}{x blk:Blk}{cs cs':Array Value}{el:TypeId}{w':World}(hx:E.H b=some x)(hr:E.ρ b=some g)(hw:Writes E g cs cs' el w'){F:Frame}(h:FrameOk F E):FrameOk F (Qed E b blk w'):=by
 refine⟨hw.os.trans h.os,hw.tape.trans h.tape,hw.output.trans h.output,?_,fun i hi ho=>?_,fun c y i hy hr'=>?_,h.S⟩
 ·rw[show(Qed E b blk w').w=w' from rfl,hw.size];exact h.size
 ·have:i≠g:=by
   rintro rfl
   rcases h.own b x i hx hr with e|e
   ·omega
   ·exact ho e
  exact(hw.oth i this).trans (h.old i hi ho)
 ·by_cases hc:c=b
  ·subst hc;exact h.own c x i hx hr'
  ·exact h.own c y i (by simpa[Qed,hc] using hy) hr'
theorem Step.setK{E:Env}{r:Res}{nm:Nat}{us:List Nat}{b g:Nat}{x blk:Blk}{w':World}{cs cs':Array Value}{el:TypeId}(hH:HeapOk E)(hr1:r.add=[])(hr2:r.set=(us.map fun u=>(u,none))++[(b,some blk)])
 (hbu:b∉us) (hx:E.H b=some x) (hr:E.ρ b=some g) (hsh:shape blk=shape x) (hw:Writes E g cs cs' el w') (hb:Holds (QK E us) blk cs'.toList):Step E r nm (Qed (QK E us) b blk w'):=by
 have hk:=Qfm hH us;have hx':(QK E us).H b=some x:=by simp[QK,hbu,hx]
 have hw':Writes (QK E us) g cs cs' el w':=⟨hw.was,hw.is,hw.len,hw.oth,hw.size,hw.os,hw.tape,hw.output⟩
 refine⟨(Q8 us).trans (Qee hk hx' hr hsh hw'),QmU hk hx' hr hsh hw' hb,fun c=>?_,fun c=>?_,fun F hF=>QmV hk hx' hr hw' (Qfn us hF)⟩
 ·rw[hr1,hr2,QmT];simp only[addF,Qed,QK,Qf5,Qfl]
 ·rw[hr1];simp[Qed,QK];omega
def Qhh(E:Env)(b nm:Nat)(blk:Blk)(w':World):Env :=
 { w:=w',ρ:=fun x=>if x=nm then E.ρ b else E.ρ x,S:=E.S,H:=fun x=>if x=nm then some blk else if x=b then none else E.H x,U:=fun x=>E.U x∨x=nm }
theorem Step.app{E:Env}{r:Res}{nm b g:Nat}{x blk:Blk}{w':World}{cs cs':Array Value}{el:TypeId}(hH:HeapOk E)(hr1:r.add=[blk])(hr2:r.set=[(b,none)])(hnm:¬E.U nm)
 (hx:E.H b=some x) (hr:E.ρ b=some g) (hw:Writes E g cs cs' el w') (hb:∃t l us spare,blk=.arr t l∧cs'.toList=us++spare∧Qu (CR E.w E.S t) l us):Step E r nm (Qhh E b nm blk w'):=by
 have hbn:b≠nm:=fun e=>hnm (e ▸ (hH.blk b x hx).1)
 have hns:∀i,E.S i→i≠g:=fun i hi e=>(hH.blk b x hx).2.2 g hr (e ▸ hi)
 have hS:∀i,E.S i→E.S i∧w'.heap[i]?=E.w.heap[i]?:=fun i hi=>⟨hi,hw.oth i (hns i hi)⟩
 have hold:∀c y,c≠nm→(Qhh E b nm blk w').H c=some y→c≠b∧E.H c=some y:=by
  intro c y hc hy;by_cases h:c=b
  ·subst h;simp[Qhh,hc] at hy
  ·exact⟨h,by simpa[Qhh,h,hc] using hy⟩
 have hext:Ext E (Qhh E b nm blk w'):=by
  refine⟨hS,fun _ h=>.inl h,fun c y hc hy=>?_⟩;have hcn:c≠nm:=fun e=>hnm (e ▸ hc)
  obtain⟨hcb,hy⟩:=hold c y hcn hy;refine⟨y,hy,by simp[Qhh,hcn],rfl,fun g' cs0 el0 hr' hc0=>⟨cs0,?_,rfl⟩⟩;exact(hw.oth g' fun e=>hcb (hH.inj c b y x g hy hx (e ▸ hr') hr)).trans hc0
 refine⟨hext,⟨fun c y hy=>?_,fun c c' y y' i hy hy' h1 h2=>?_,fun i hi=>?_⟩,fun c=>?_,fun c=>?_,fun F h=>⟨hw.os.trans h.os,hw.tape.trans h.tape,hw.output.trans h.output,?_,fun i hi ho=>?_,fun c y i hy hr'=>?_,h.S⟩⟩
 ·by_cases hc:c=nm
  ·subst hc;simp only[Qhh,if_true,Option.some.injEq] at hy;subst hy;obtain⟨t,l,us,spare,rfl,e1,e2⟩:=hb;refine⟨.inr rfl,.inr ⟨g,cs',el,us,spare,by simp[Qhh,hr],hw.is,e1,e2.mono fun _ _ hx=>hx.mono hS⟩,fun i hi=>?_⟩;have:E.ρ b=some i:=by simpa[Qhh] using hi
   exact(hH.blk b x hx).2.2 i this
  ·obtain⟨hcb,hy⟩:=hold c y hc hy;obtain⟨h1,h2,h3⟩:=hH.blk c y hy;exact⟨.inl h1,h2.ext hext (by simp[Qhh,hc]) (fun g' hg'=>hw.oth g' fun e=>hcb (hH.inj c b y x g hy hx (e ▸ hg') hr)),fun i hi=>h3 i (by simpa[Qhh,hc] using hi)⟩
 ·by_cases hc:c=nm<;>by_cases hc':c'=nm
  ·rw[hc,hc']
  ·obtain⟨hcb,hy'⟩:=hold c' y' hc' hy';simp only[Qhh,hc,hc',if_true,if_false] at h1 h2;exact absurd (hH.inj c' b y' x i hy' hx h2 h1) hcb
  ·obtain⟨hcb,hy⟩:=hold c y hc hy;simp only[Qhh,hc,hc',if_true,if_false] at h1 h2;exact absurd (hH.inj c b y x i hy hx h1 h2) hcb
  ·obtain⟨_,hy⟩:=hold c y hc hy;obtain⟨_,hy'⟩:=hold c' y' hc' hy';simp only[Qhh,hc,hc',if_false] at h1 h2;exact hH.inj c c' y y' i hy hy' h1 h2
 ·rw[show(Qhh E b nm blk w').w=w' from rfl,hw.size];exact hH.st i hi
 ·rw[hr1,hr2];simp only[addF,Qf5,Qhh]
 ·rw[hr1];simp only[Qhh,List.length_singleton];constructor
  ·rintro (h|h)
   ·exact .inl h
   ·exact .inr (by omega)
  ·rintro (h|h)
   ·exact .inl h
   ·exact .inr (by omega)
 ·rw[show(Qhh E b nm blk w').w=w' from rfl,hw.size];exact h.size
 ·have:i≠g:=by
   rintro rfl
   rcases h.own b x i hx hr with e|e
   ·omega
   ·exact ho e
  exact(hw.oth i this).trans (h.old i hi ho)
 ·by_cases hc:c=nm
  ·subst hc;exact h.own b x i hx (by simpa[Qhh] using hr')
  ·obtain⟨_,hy⟩:=hold c y hc hy;exact h.own c y i hy (by simpa[Qhh,hc] using hr')
theorem Qqw(c:Cell)(cs:List Cell):sizes (c::cs)=c.size+sizes cs:=rfl
theorem Qc0{E:Env}:∀{cs:List Cell} {vs:List Value} {j:Nat} {c:Cell},IR E cs vs→QaW cs j=some c→∃a r b,vs=a++r++b∧a.length=j∧QaK E c r
 | [],_,_,_,_,h=>by simp[QaW] at h
 |x::xs,_,j,c,⟨r,rest,e,h1,h2⟩,h=>by
  subst e;unfold QaW at h;cases h0:Nat.beq j 0 with
  |true =>
   rw[h0] at h;injection h with h;subst h
   exact⟨[],r,rest,rfl,(Nat.eq_of_beq_eq_true h0).symm,h1⟩
  |false =>
   rw[h0] at h;simp only at h;cases h3:Nat.ble x.size j with
   |true =>
    rw[h3] at h;have hle:=Nat.le_of_ble_eq_true h3;obtain⟨a,r',b,rfl,ha,hc⟩:=Qc0 h2 h;exact⟨r++a,r',b,by simp,by simp[h1.len,ha];omega,hc⟩
   |false=>rw[h3] at h;cases h
theorem Qfo{E:Env}:∀{cs:List Cell} {vs:List Value} {n:Nat} {r:List Cell},IR E cs vs→QcY cs n=some r→∃a b,vs=a++b∧a.length=n∧IR E r a
 | [],vs,n,r,h1,h=>by
   unfold QcY at h;cases h0:Nat.beq n 0 with
   |true=>rw[h0] at h;injection h with h;subst h;exact⟨[],vs,rfl,(Nat.eq_of_beq_eq_true h0).symm,rfl⟩
   |false=>rw[h0] at h;cases h
 |x::xs,_,n,r,⟨v,rest,e,h1,h2⟩,h=>by
  subst e;unfold QcY at h;cases h0:Nat.beq n 0 with
  |true=>rw[h0] at h;injection h with h;subst h;exact⟨[],_,rfl,(Nat.eq_of_beq_eq_true h0).symm,rfl⟩
  |false =>
   rw[h0] at h;simp only at h;cases h3:Nat.ble x.size n with
   |true =>
    rw[h3] at h;have hle:=Nat.le_of_ble_eq_true h3;cases h4:QcY xs (n-x.size) with
    |none=>rw[h4] at h;cases h
    |some r' =>
     rw[h4] at h;injection h with h
     subst h;obtain⟨a,b,rfl,ha,hr⟩:=Qfo h2 h4;exact⟨v++a,b,by simp,by simp[h1.len,ha];omega,v,a,rfl,h1,hr⟩
   |false=>rw[h3] at h;cases h
theorem Qdm{E:Env}:∀{cs:List Cell} {vs:List Value} {j n:Nat} {r:List Cell},IR E cs vs→QaB cs j n=some r→∃a m b,vs=a++m++b∧a.length=j∧m.length=n∧IR E r m
 |cs,vs,j,n,r,h1,h=>by
  unfold QaB at h;cases h0:Nat.beq j 0 with
  |true =>
   rw[h0] at h;obtain⟨a,b,rfl,ha,hr⟩:=Qfo h1 h;exact⟨[],a,b,rfl,(Nat.eq_of_beq_eq_true h0).symm,ha,hr⟩
  |false =>
   rw[h0] at h;simp only at h;cases cs with
   |nil=>cases h
   |cons x xs =>
    simp only at h;obtain⟨v,rest,rfl,h2,h3⟩:=h1;cases h4:Nat.ble x.size j with
    |true =>
     rw[h4] at h;have hle:=Nat.le_of_ble_eq_true h4;obtain⟨a,m,b,rfl,ha,hm,hr⟩:=Qdm h3 h;exact⟨v++a,m,b,by simp,by simp[h2.len,ha];omega,hm,hr⟩
    |false=>rw[h4] at h;cases h
theorem Qdn{E:Env}{x:Cell}{xv:List Value}(hx:QaK E x xv):∀{cs cs':List Cell} {vs:List Value} {j:Nat},IR E cs vs→QcM cs j x=some cs' →
 ∃a r b,vs=a++r++b∧a.length=j∧r.length=x.size∧IR E cs' (a++xv++b)∧cs'.map Cell.size=cs.map Cell.size
 | [],_,_,_,_,h=>by simp[QcM] at h
 |c::cs,cs',_,j,⟨v,rest,e,h1,h2⟩,h=>by
  subst e;unfold QcM at h;cases h0:Nat.beq j 0 with
  |true =>
   rw[h0] at h;simp only at h;cases h3:Nat.beq c.size x.size with
   |true =>
    rw[h3] at h;injection h with h
    subst h;have:=Nat.eq_of_beq_eq_true h3;exact⟨[],v,rest,rfl,(Nat.eq_of_beq_eq_true h0).symm,by rw[h1.len,this],⟨xv,rest,by simp,hx,h2⟩,by simp[this]⟩
   |false=>rw[h3] at h;cases h
  |false =>
   rw[h0] at h;simp only at h;cases h3:Nat.ble c.size j with
   |true =>
    rw[h3] at h;have hle:=Nat.le_of_ble_eq_true h3;cases h4:QcM cs (j-c.size) x with
    |none=>rw[h4] at h;cases h
    |some r' =>
     rw[h4] at h;injection h with h
     subst h;obtain⟨a,r,b,rfl,ha,hr,hi,hs⟩:=Qdn hx h2 h4;exact⟨v++a,r,b,by simp,by simp[h1.len,ha];omega,hr,⟨v,a++xv++b,by simp,h1,hi⟩,by simp[hs]⟩
   |false=>rw[h3] at h;cases h
theorem QmW{a a' r r' b b':List Value}(h:a++r++b=a'++r'++b')(h1:a.length=a'.length)(h2:r.length=r'.length):a=a'∧r=r'∧b=b':=by
 rw[List.append_assoc,List.append_assoc] at h;obtain⟨e1,e2⟩:=List.append_inj h h1;obtain⟨e3,e4⟩:=List.append_inj e2 h2;exact⟨e1,e3,e4⟩
theorem QcD{E:Env}:∀{xs:List Cell} {xvs:List Value} {cs cs':List Cell} {vs:List Value} {j:Nat},IR E xs xvs→IR E cs vs→Qbn cs j xs=some cs'→j≤vs.length →
 ∃a r b,vs=a++r++b∧a.length=j∧r.length=xvs.length∧IR E cs' (a++xvs++b)∧cs'.map Cell.size=cs.map Cell.size
 | [],_,cs,cs',vs,j,hx,h1,h,hj=>by
   simp only[IR] at hx;subst hx;simp only[Qbn,Option.some.injEq] at h;subst h;exact⟨vs.take j,[],vs.drop j,by simp,by simp[hj],rfl,by simpa using h1,rfl⟩
 |x::xs,_,cs,cs',vs,j,⟨xv,xvs,e,hx,hxs⟩,h1,h,hj=>by
  subst e;unfold Qbn at h;cases h2:QcM cs j x with
  |none=>rw[h2] at h;cases h
  |some cs1 =>
   rw[h2] at h;simp only at h;obtain⟨a,r,b,rfl,ha,hr,hi,hs⟩:=Qdn hx h1 h2;obtain⟨a',r',b',e,ha',hr',hi',hs'⟩:=QcD hxs hi h (by simp[ha,hx.len]);have hxl:=hx.len;have hlen:(a++xv).length=a'.length:=by simp[ha,ha',hxl]
   obtain⟨e0,e1⟩:=List.append_inj (show(a++xv)++b=a'++(r'++b') by rw[e,List.append_assoc]) hlen;subst e0 e1;refine⟨a,r++r',b',by simp,ha,by simp[hr,hxl,hr'],by simpa using hi',hs'.trans hs⟩
theorem QeR:∀(cs:List Cell) (n:Nat),cs.foldl (fun n c=>n+c.size) n=n+sizes cs
 | [],n=>rfl
 |c::cs,n=>by rw[List.foldl_cons,QeR cs,Qqw];omega
def Qsl:TypeDesc→Bool
 |.struct _|.array _ _=>true
 |_=>false
def QW(P:Program):TD→TypeId→Prop
 |.int k,t=>P.underlying t=some (.int k)
 |.bool,t=>P.underlying t=some .bool
 |.str,t=>P.underlying t=some .string
 |.slice e,t=>P.underlying t=some (.slice e)
 |.struct fs,t=>∃F,P.underlying t=some (.struct F)∧(∀(i:Nat) u o,fs[i]?=some (u,o)→∃f:Field,F[i]?=some f∧f.type=u∧f.offset=o)∧(∀f∈F,∃i,P.info? f.type=some i)
 |.array n e,t=>P.underlying t=some (.array n e)
 |.ptr e,t=>P.underlying t=some (.pointer e)
 |.iface,t=>∃ms,P.underlying t=some (.interface ms)
 |.map k e,t=>P.underlying t=some (.map k e)
 |.other,t=>∃d,P.underlying t=some d∧Qsl d=false
def Ty.by_:Ty→Nat
 |.int k=>k.bits/8
 |.ints k n=>n*(k.bits/8)
 |.bool=>1
 |.str=>16
 |.sl _=>24
 |.pair a b=>a.by_+b.by_
def QeC(P:Program)(g:Ty→TypeId→Bool):Ty→List Field→Nat→Bool
 |_,[],_=>false
 |u,[f],off=>g u f.type&&Nat.beq f.offset off&&Nat.beq (P.cellsOf f.type) u.size
 |u,f::fs,off=>match u with
  |.pair a b=>g a f.type&&Nat.beq f.offset off&&Nat.beq (P.cellsOf f.type) a.size&&QeC P g b fs (off+a.size)
  |_=>false
def Qbe(P:Program):Nat→Ty→TypeId→Bool
 |0,_,_=>false
 |n+1,u,t=>match P.underlying t,u with
  |some .bool,.bool=>true
  |some (.int k),.int k'=>decide (k'=k)
  |some .string,.str=>true
  |some (.slice e),.sl v=>Qbe P n v e&&Nat.beq (P.cellsOf e) v.size&&Nat.ble 1 v.size&&Nat.ble v.by_ (P.bytesOf e)
  |some (.struct F),u=>QeC P (Qbe P n) u F.toList 0&&Nat.beq (P.cellsOf t) u.size
  |some (.array m e),.ints k m'=>match P.underlying e with
   |some (.int k')=>decide (k'=k)&&Nat.beq m' m&&Nat.beq (P.cellsOf e) 1&&Nat.beq (P.cellsOf t) m
   |_=>false
  |_,_=>false
def Qad(P:Program)(t:TypeId):Bool:=match P.underlying t with|some (.struct _)=>true|some (.array _ _)=>true|_=>false
def QwS(P:Program)(u:Option Ty)(t:TypeId):Bool:=match u with
 |some u=>Qad P t&&P.keyTypeAt 30 t&&Qbe P 30 u t&&!P.eqGuardType P.depth t
 |none=>false
structure TyOk(P:Program)(t:TypeId)(ti:TI):Prop where
 und:QW P ti.desc t
 inf:∃i z,P.info? t=some i∧i.size=ti.size∧i.bytes=ti.bytes∧i.zero=some z∧(∀E:Env,IR E ti.zero z.cells.toList)∧z.cells.size=ti.size ∧
  (∀u,ti.ety=some u→u.size=ti.size∧∀w S,CR w S u (dflt u) z.cells.toList)
 cmp:ti.cmp=true→QwS P ti.ety t=true
 nag:ti.isAgg=false→∀i z,P.info? t=some i→i.zero=some z→z.cells.toList=[z]
structure TabOk(P:Program)(T:Tab):Prop where
 ty:∀t ti,T.ty t=some ti→TyOk P t ti
 meth:∀t name f,T.meth t name=some f→∀v w,(method (P.types.size+Made.depth) t v name).run P w=.ok (f,v) w
section
variable {P:Program} {T:Tab}
theorem TyOk.agg{t:TypeId}{ti:TI}(h:TyOk P t ti)(w:World):(isAgg t).run P w=.ok ti.isAgg w:=by
 have key:∃d,P.underlying t=some d∧Qsl d=ti.isAgg:=by
  have:=h.und;unfold TI.isAgg;cases hd:ti.desc<;>rw[hd] at this<;>simp only[QW] at this
  case struct=>obtain⟨F,h1,_⟩:=this;exact⟨_,h1,rfl⟩
  case iface=>obtain⟨F,h1⟩:=this;exact⟨_,h1,rfl⟩
  case other=>exact this
  all_goals exact⟨_,this,rfl⟩
 obtain⟨d,h1,h2⟩:=key;rw[←h2];unfold isAgg;simp only[Sem.run_bind,run_underlying h1,Result.andThen_ok];cases d<;>rfl
theorem TyOk.sizeOf{t:TypeId}{ti:TI}(h:TyOk P t ti)(w:World):(sizeOf t).run P w=.ok ti.size w:=by
 obtain⟨i,z,h1,h2,_⟩:=h.inf;simp[Go.sizeOf,typeInfo,h1,h2]
theorem TyOk.zero{t:TypeId}{ti:TI}(h:TyOk P t ti):∃z,(∀w,(zeroValue t).run P w=.ok z w)∧(∀E:Env,IR E ti.zero z.cells.toList)∧z.cells.size=ti.size ∧
 (∀u,ti.ety=some u→u.size=ti.size∧∀w S,CR w S u (dflt u) z.cells.toList):=by
 obtain⟨i,z,h1,h2,h3,h4,h5,h6,h7⟩:=h.inf;exact⟨z,fun w=>by simp[zeroValue,typeInfo,h1,h4],h5,h6,h7⟩
theorem Qbo{o:Oper}{a:Act}{w w':World}{v:Value}{next:Act→World→Prop}{Q:Exit→Act→World→Prop}(h:(execOp a.eval o).run P w=.ok (.value v) w')(hn:next (a.put o.dst v) w'):o.wp P a w next Q:=by
 unfold Oper.wp;rw[h];exact hn
theorem QmX{o:Oper}{a:Act}{w w':World}{next:Act→World→Prop}{Q:Exit→Act→World→Prop}(h:(execOp a.eval o).run P w=.ok .skip w')(hn:next (a.put o.dst undef) w'):o.wp P a w next Q:=by
 unfold Oper.wp;rw[h];exact hn
theorem Qoe{E:Env}{look:Nat→Option Blk}(hT:TabOk P T)(hH:HeapOk E)(hl:∀b x,look b=some x→E.H b=some x){t:TypeId}{a:AV}{va:Value}{r:Res}(ha:AVR E a va)
 (h:QwN T look t a=some r) (hp:∀p,r.pre=some p→p):∃v,(Instr.loadAt t va).run P E.w=.ok v E.w∧AVR E r.val v∧r.add=[]∧r.set=[]:=by
 have agg:∀{ti:TI} {cs r':List Cell} {us:List Value} {ad:Addr} {j:Nat},TyOk P t ti→ti.isAgg=true→IR E cs us→QaB cs j ti.size=some r'→(∀k u,us[k]?=some u→E.w.cell? (ad.add k)=some u) →
  ∃v,(Instr.loadAt t (.pointer (some (ad.add j)))).run P E.w=.ok v E.w∧AVR E (.agg r') v:=by
  intro ti cs r' us ad j hti hag hr hpart hc;obtain⟨x,m,y,rfl,hx,hm,hmr⟩:=Qdm hr hpart;refine⟨.agg m.toArray,?_,m.toArray,rfl,by simpa using hmr⟩
  have hl:(loadCells (ad.add j) ti.size).run P E.w=.ok m.toArray E.w:=by
   rw[←hm];refine run_loadCells_list _ _ m fun k u hu=>?_
   have:=hc (j+k) u (by rw[List.append_assoc,List.getElem?_append_right (by omega),hx,List.getElem?_append_left (by simpa using(List.getElem?_eq_some_iff.1 hu).1)];simpa using hu);rw[←this];congr 1;unfold Addr.add;by_cases h1:j=0<;>by_cases h2:k=0<;>simp[h1,h2,Nat.add_assoc]
  simp[Instr.loadAt,Instr.sureAddr,loadVar,hti.agg,hag,hti.sizeOf,hl]
 have one:∀{ti:TI} {cs:List Cell} {c:Cell} {us:List Value} {ad:Addr} {j:Nat},TyOk P t ti→ti.isAgg=false→IR E cs us→QaW cs j=some c→c.size=1→(∀k u,us[k]?=some u→E.w.cell? (ad.add k)=some u) →
  ∃v,(Instr.loadAt t (.pointer (some (ad.add j)))).run P E.w=.ok v E.w∧AVR E (.cell c) v:=by
  intro ti cs c us ad j hti hag hr hitem hs hc;obtain⟨x,m,y,rfl,hx,hmr⟩:=Qc0 hr hitem;have hml:=hmr.len;rw[hs] at hml
  match m,hml with
  | [v],_ =>
    refine⟨v,?_,hmr⟩;have:=hc j v (by rw[List.append_assoc,List.getElem?_append_right (by omega),hx];simp);simp[Instr.loadAt,Instr.sureAddr,loadVar,hti.agg,hag,this]
 have run1:∀{c:Cell},(∀k n l,c≠.run k n l)→c.size=1:=by
  intro c hc;cases c<;>first|rfl|exact absurd rfl (hc _ _ _)
 unfold QwN at h;cases hti:T.ty t with
 |none=>rw[hti] at h;cases h
 |some ti =>
  rw[hti] at h;simp only at h;have hok:=hT.ty t ti hti
  match a,h,ha with
  |.one (.c (.ptr b j)),h,ha =>
   simp only at h;cases hb:look b with
   |none=>rw[hb] at h;cases h
   |some x =>
    rw[hb] at h;cases x with
    |arr _ _=>cases h
    |mp _ _ _ _=>cases h
    |var cs =>
     simp only at h;have hx:=hl _ _ hb;obtain⟨_,⟨g',cs',el',h6,h7,h8⟩,_⟩:=hH.blk _ _ hx;obtain⟨v,⟨e,_⟩,hu,hh⟩:=ha;injection e with e
     subst e;obtain⟨g,h1,rfl⟩:=hh _ hx;rw[h1] at h6;injection h6 with h6;subst h6
     have hcell:∀k u,cs'.toList[k]?=some u→E.w.cell? ((⟨g,0,none⟩:Addr).add k)=some u:=fun k u hu=>by
      rw[Qbx,Nat.zero_add,cell_at h7,←Array.getElem?_toList];exact hu
     have hpt:pt g j=.pointer (some ((⟨g,0,none⟩:Addr).add j)):=by rw[Qbx,Nat.zero_add];rfl
     cases hag:ti.isAgg with
     |true =>
      rw[hag] at h;simp only at h;cases hq:QaB cs j ti.size with
      |none=>rw[hq] at h;cases h
      |some r' =>
       rw[hq] at h;simp only[ok1,Option.some.injEq] at h;subst h;obtain⟨v,hv,hvr⟩:=agg hok hag h8 hq hcell;exact⟨v,by rw[hpt];exact hv,hvr,rfl,rfl⟩
     |false =>
      rw[hag] at h;simp only at h;split at h
      ·cases h
      ·rename_i c hq hnr;simp only[ok1,Option.some.injEq] at h;subst h;obtain⟨v,hv,hvr⟩:=one hok hag h8 hnr (run1 fun k n l e=>hq k n l (by rw[←e])) hcell;exact⟨v,by rw[hpt];exact hv,hvr,rfl,rfl⟩
      ·cases h
  |.one (.c (.pidx b j i)),h,ha =>
   simp only at h;cases hb:look b with
   |none=>rw[hb] at h;cases h
   |some x =>
    rw[hb] at h;cases x with
    |arr _ _=>cases h
    |mp _ _ _ _=>cases h
    |var cs =>
     simp only at h;have hx:=hl _ _ hb;obtain⟨_,⟨g',cs',el',h6,h7,h8⟩,_⟩:=hH.blk _ _ hx;obtain⟨v,⟨e,_⟩,hu,hh⟩:=ha;injection e with e
     subst e;obtain⟨g,h1,rfl⟩:=hh _ hx;rw[h1] at h6;injection h6 with h6;subst h6
     cases hag:ti.isAgg with
     |true=>rw[hag] at h;cases h
     |false =>
      rw[hag] at h;simp only at h;split at h
      ·rename_i k n l hq;simp only[okP,Option.some.injEq] at h;subst h;have hi:=hp _ rfl;obtain⟨x,m,y,e,hx',hlen,rfl⟩:=Qc0 h8 hq;refine⟨.int k (l.getD i 0),?_,⟨rfl,rfl⟩,rfl,rfl⟩
       have:E.w.cell? ⟨g,j+i,none⟩=some (.int k (l.getD i 0)):=by
        rw[cell_at h7,←Array.getElem?_toList,e,List.append_assoc,List.getElem?_append_right (by omega),hx',show j+i-j=i from by omega,List.getElem?_append_left (by simp;omega)];simp[List.getD,List.getElem?_eq_getElem (show i<l.length by omega)]
       simp[Instr.loadAt,Instr.sureAddr,pt,loadVar,hok.agg,hag,this]
      ·cases h
  |.one (.c (.pel b i j)),h,ha =>
   simp only at h;cases hb:look b with
   |none=>rw[hb] at h;cases h
   |some x =>
    rw[hb] at h;cases x with
    |var _=>cases h
    |mp _ _ _ _=>cases h
    |arr u l =>
     simp only at h;have hx:=hl _ _ hb;obtain⟨_,hbr,_⟩:=hH.blk _ _ hx;obtain⟨v,⟨e,_⟩,hu,hh⟩:=ha;injection e with e
     subst e
     have main:i<l.length→∃(us:List Value) (ad:Addr),IR E (cells u (l.getD i (dflt u))) us∧va=.pointer (some (Addr.add ad j))∧∀k w,us[k]?=some w→E.w.cell? (ad.add k)=some w:=by
      intro hi;obtain⟨g,h1,rfl⟩:=hh _ _ hx hi;rcases hbr with⟨h6,rfl⟩|⟨g',cs',el',us,spare,h6,h7,h8,h9⟩
      ·simp at hi
      ·rw[h1] at h6;injection h6 with h6;subst h6
       obtain⟨p,q,s,rfl,hp1,hq⟩:=h9.get (fun _ _ hx=>hx.len) hi;have hg:l.getD i (dflt u)=l[i]:=by simp[List.getD,List.getElem?_eq_getElem hi]
       rw[hg];refine⟨q,⟨g,i*u.size,none⟩,hq.items,by rw[Qbx];rfl,fun k w hw=>?_⟩
       rw[Qbx,cell_at h7,←Array.getElem?_toList,h8,List.append_assoc,List.append_assoc,List.getElem?_append_right (by omega),hp1,show i*u.size+k-i*u.size=k from by omega,
        List.getElem?_append_left (by exact(List.getElem?_eq_some_iff.1 hw).1)]
       exact hw
     cases hag:ti.isAgg with
     |true =>
      rw[hag] at h;simp only at h;cases hq:QaB (cells u (l.getD i (dflt u))) j ti.size with
      |none=>rw[hq] at h;cases h
      |some r' =>
       rw[hq] at h;simp only[okP,Option.some.injEq] at h;subst h;obtain⟨us,ad,h1,rfl,h2⟩:=main (hp _ rfl);obtain⟨v,hv,hvr⟩:=agg hok hag h1 hq h2;exact⟨v,hv,hvr,rfl,rfl⟩
     |false =>
      rw[hag] at h;simp only at h;split at h
      ·cases h
      ·rename_i c hq hnr;simp only[okP,Option.some.injEq] at h;subst h;obtain⟨us,ad,h1,rfl,h2⟩:=main (hp _ rfl);obtain⟨v,hv,hvr⟩:=one hok hag h1 hnr (run1 fun k n l e=>hq k n l (by rw[←e])) h2;exact⟨v,hv,hvr,rfl,rfl⟩
      ·cases h
  |.one (.c (.rptr u l i j)),h,ha =>
   simp only at h;obtain⟨hi,ad,us0,e,hs,hlr,hcell⟩:=ha;injection e with e
   subst e
   have main:∃us ad',IR E (cells u (l.getD i (dflt u))) us∧ad.add (i*u.size+j)=Addr.add ad' j∧∀k w,us[k]?=some w→E.w.cell? (ad'.add k)=some w:=by
    obtain⟨p,q,s,rfl,hp1,hq⟩:=hlr.get (fun _ _ hx=>hx.len) hi;have hg:l.getD i (dflt u)=l[i]:=by simp[List.getD,List.getElem?_eq_getElem hi]
    rw[hg];refine⟨q,ad.add (i*u.size),hq.items,?_,fun k w hw=>?_⟩
    ·unfold Addr.add;by_cases h1:i*u.size=0<;>by_cases h2:j=0<;>simp[h1,h2,Nat.add_assoc]
    ·have:=hcell (i*u.size+k) w (by
      rw[List.append_assoc,List.getElem?_append_right (by omega),hp1,show i*u.size+k-i*u.size=k from by omega,List.getElem?_append_left (by exact(List.getElem?_eq_some_iff.1 hw).1)]
      exact hw)
     rw[←this];congr 1;unfold Addr.add;by_cases h1:i*u.size=0<;>by_cases h2:k=0<;>simp[h1,h2,Nat.add_assoc]
   obtain⟨us,ad',h1,e,h2⟩:=main;rw[e];cases hag:ti.isAgg with
   |true =>
    rw[hag] at h;simp only at h;cases hq:QaB (cells u (l.getD i (dflt u))) j ti.size with
    |none=>rw[hq] at h;cases h
    |some r' =>
     rw[hq] at h;simp only[ok1,Option.some.injEq] at h;subst h;obtain⟨v,hv,hvr⟩:=agg hok hag h1 hq h2;exact⟨v,hv,hvr,rfl,rfl⟩
   |false =>
    rw[hag] at h;simp only at h;split at h
    ·cases h
    ·rename_i c hq hnr;simp only[ok1,Option.some.injEq] at h;subst h;obtain⟨v,hv,hvr⟩:=one hok hag h1 hnr (run1 fun k n l e=>hq k n l (by rw[←e])) h2;exact⟨v,hv,hvr,rfl,rfl⟩
    ·cases h
theorem Qa5{E:Env}{g:Nat}{cs cs':Array Value}{el:TypeId}(h:E.w.heap[g]?=some (.cells cs el (0,0)))(hs:cs'.size=cs.size):Writes E g cs cs' el (E.w.setRow g cs') :=
 ⟨h,setRow_heap _ _ _ _ _ _ h,hs,fun i hi=>setRow_other _ _ _ _ hi,by simp,rfl,rfl,rfl⟩
end
end Go.Fw

