/- Part 6 of the proof. Conditions: none. -/
import Derived.Test.YtofgbclopbmlcaaGreatG5
import Derived.MapKept
import Derived.Laws.BytesString
import Derived.Laws.IdiomStrings
import Derived.WideKeyRuns
import Derived.Lib.SlicesS
namespace Go.Fw
set_option linter.unusedVariables false
set_option linter.unusedSimpArgs false
structure WritesM(E:Env)(g:Nat)(es es':Array MapEntry)(c c':Nat)(w':World):Prop where
 was:E.w.heap[g]?=some (.map es c)
 is:w'.heap[g]?=some (.map es' c')
 oth:∀i,i≠g→w'.heap[i]?=E.w.heap[i]?
 size:w'.heap.size=E.w.heap.size
 os:w'.os=E.w.os
 tape:w'.tape=E.w.tape
 output:w'.output=E.w.output
section
variable {E:Env} {b g:Nat} {ka:Bool} {kt vt:Ty} {l l':List (Den kt×Den vt)} {es es':Array MapEntry} {c c':Nat} {w':World}
theorem QoC(hH:HeapOk E)(hx:E.H b=some (.mp ka kt vt l))(hr:E.ρ b=some g)(hw:WritesM E g es es' c c' w'):Ext E (QdY E b (.mp ka kt vt l') w'):=by
 have hns:∀i,E.S i→i≠g:=fun i hi e=>(hH.blk b _ hx).2.2 g hr (e ▸ hi)
 refine⟨fun i hi=>⟨hi,hw.oth i (hns i hi)⟩,fun _ h=>h,fun d y hc hy=>?_⟩;by_cases h:d=b
 ·subst h;simp only[QdY,if_true,Yc] at hy;subst hy;refine⟨_,hx,rfl,rfl,fun g' cs0 el0 hr' hc0=>?_⟩;rw[hr] at hr';injection hr' with hr';subst hr'
  rw[hw.was] at hc0;cases hc0
 ·simp only[QdY,h,if_false] at hy;refine⟨y,hy,rfl,rfl,fun g' cs0 el0 hr' hc0=>⟨cs0,?_,rfl⟩⟩;have:g'≠g:=fun e=>h (hH.inj d b y _ g hy hx (e ▸ hr') hr)
  exact(hw.oth g' this).trans hc0
theorem QCo(hH:HeapOk E)(hx:E.H b=some (.mp ka kt vt l))(hr:E.ρ b=some g)(hw:WritesM E g es es' c c' w')(hb:Qm8 ka kt vt l' es'.toList):HeapOk (QdY E b (.mp ka kt vt l') w'):=by
 have hext:=QoC (l':=l') hH hx hr hw
 have hlive:∀d y,(QdY E b (.mp ka kt vt l') w').H d=some y→∃y0,E.H d=some y0:=by
  intro d y hy;by_cases h:d=b
  ·exact⟨_,h ▸ hx⟩
  ·exact⟨y,by simpa[QdY,h] using hy⟩
 refine⟨fun d y hy=>?_,fun d d' y y' i hy hy' hr1 hr2=>?_,fun i hi=>?_⟩
 ·by_cases h:d=b
  ·subst h;simp only[QdY,if_true,Yc] at hy;subst hy;obtain⟨h1,h2,h3⟩:=hH.blk d _ hx;exact⟨h1,⟨g,es',c',hr,hw.is,hb⟩,h3⟩
  ·simp only[QdY,h,if_false] at hy;obtain⟨h1,h2,h3⟩:=hH.blk d y hy;exact⟨h1,h2.ext hext rfl (fun g' hg'=>hw.oth g' fun e=>h (hH.inj d b y _ g hy hx (e ▸ hg') hr)),h3⟩
 ·obtain⟨y0,h0⟩:=hlive d y hy;obtain⟨y1,h1⟩:=hlive d' y' hy';exact hH.inj d d' y0 y1 i h0 h1 hr1 hr2
 ·rw[show(QdY E b (.mp ka kt vt l') w').w=w' from rfl,hw.size];exact hH.st i hi
theorem Step.setM{r:Res}{nm:Nat}(hH:HeapOk E)(hr1:r.add=[])(hr2:r.set=[(b,some (.mp ka kt vt l'))])(hx:E.H b=some (.mp ka kt vt l))(hr:E.ρ b=some g)(hw:WritesM E g es es' c c' w')(hb:Qm8 ka kt vt l' es'.toList) :
 Step E r nm (QdY E b (.mp ka kt vt l') w'):=by
 refine⟨QoC hH hx hr hw,QCo hH hx hr hw hb,fun d=>?_,fun d=>?_,fun F h=>⟨hw.os.trans h.os,hw.tape.trans h.tape,hw.output.trans h.output,?_,fun i hi ho=>?_,fun d y i hy hr'=>?_,h.S⟩⟩
 ·rw[hr1,hr2];rfl
 ·rw[hr1];simp[QdY];omega
 ·rw[show(QdY E b (.mp ka kt vt l') w').w=w' from rfl,hw.size];exact h.size
 ·have:i≠g:=by
   rintro rfl
   rcases h.own b _ i hx hr with e|e
   ·omega
   ·exact ho e
  exact(hw.oth i this).trans (h.old i hi ho)
 ·by_cases hc:d=b
  ·subst hc;exact h.own d _ i hx hr'
  ·exact h.own d y i (by simpa[QdY,hc] using hy) hr'
theorem Step.newM{r:Res}{nm:Nat}{cl:Nat}(hH:HeapOk E)(hr1:r.add=[.mp ka kt vt []])(hr2:r.set=[])(hnm:¬E.U nm)
 (hw:w'.heap=E.w.heap.push (.map #[] cl)) (h1:w'.os=E.w.os) (h2:w'.tape=E.w.tape) (h3:w'.output=E.w.output):Step E r nm (newE E nm (.mp ka kt vt []) w'):=by
 have hext:=QjU hH hnm (blk:=.mp ka kt vt []) hw;refine⟨hext,⟨fun d y hy=>?_,fun d d' y y' i hy hy' e1 e2=>?_,fun i hi=>?_⟩,fun d=>?_,fun d=>?_,fun F hF=>QsP hH hw h1 h2 h3 hF⟩
 ·by_cases h:d=nm
  ·subst h;simp only[newE,if_true,Yc] at hy;subst hy;refine⟨.inr rfl,⟨_,#[],cl,by simp[newE],Qg2 hw,trivial⟩,fun g hg hs=>?_⟩;simp only[newE,if_true,Yc] at hg;have:=hH.st g hs;omega
  ·simp only[newE,h,if_false] at hy;obtain⟨k1,k2,k3⟩:=hH.blk d y hy;exact⟨.inl k1,k2.ext hext (by simp[newE,h]) (fun g hg=>Qce hw (QaU hH hy hg).1),fun g hg=>k3 g (by simpa[newE,h] using hg)⟩
 ·by_cases h:d=nm<;>by_cases h':d'=nm
  ·rw[h,h']
  ·simp only[newE,h,h',if_true,if_false,Yc] at hy hy' e1 e2;have:=(QaU hH hy' e2).1;omega
  ·simp only[newE,h,h',if_true,if_false,Yc] at hy hy' e1 e2;have:=(QaU hH hy e1).1;omega
  ·simp only[newE,h,h',if_false] at hy hy' e1 e2;exact hH.inj d d' y y' i hy hy' e1 e2
 ·rw[show(newE E nm (.mp ka kt vt []) w').w=w' from rfl,hw];have:=hH.st i hi;simp;omega
 ·rw[hr1,hr2];simp only[addF,newE,Qgf]
 ·rw[hr1];simp only[newE,Jj];constructor
  ·rintro (h|h)
   ·exact .inl h
   ·exact .inr (by omega)
  ·rintro (h|h)
   ·exact .inl h
   ·exact .inr (by omega)
end
section
variable {P:Program} {T:Tab}
theorem Qbw:∀{u:Ty},QaG u=true→u.flat=true
 |.int _,_=>rfl
 |.ints _ _,h=>by cases h
 |.bool,_=>rfl
 |.str,_=>rfl
 |.sl _,h=>by cases h
 |.pair a b,h=>by
  simp only[QaG,Yj] at h;simp only[Ty.flat,Yj];exact⟨Qbw h.1,Qbw h.2⟩
theorem Qdw:∀{u:Ty} {x y:Den u},u.flat=true→QD u x y=true→x=y
 |.int _,x,y,_,h=>Ya h
 |.ints _ _,x,y,_,h=>Ya h
 |.bool,x,y,_,h=>by
  have h:((x:Bool)==y)=true:=h;exact eq_of_beq h
 |.str,x,y,_,h=>(Lib.bytes_beq_iff x y).1 h
 |.sl _,_,_,h,_=>by cases h
 |.pair a b,x,y,h,he=>by
  simp only[Ty.flat,Yj] at h;simp only[QD,Yj] at he;exact Prod.ext (Qdw h.1 he.1) (Qdw h.2 he.2)
theorem CR.uniq{w:World}{S:Nat→Prop}:∀{u:Ty} {x:Den u} {vs us:List Value},u.flat=true→CR w S u x vs→CR w S u x us→vs=us
 |.int _,_,_,_,_,h,h'=>by rw[show _=_ from h,show _=_ from h']
 |.ints _ _,_,_,_,_,h,h'=>by rw[h.2,h'.2]
 |.bool,_,_,_,_,h,h'=>by rw[show _=_ from h,show _=_ from h']
 |.str,_,_,_,_,h,h'=>by rw[show _=_ from h,show _=_ from h']
 |.sl _,_,_,_,h,_,_=>by cases h
 |.pair a b,_,_,_,hf,⟨r,s,e,h1,h2⟩,⟨r',s',e',h1',h2'⟩=>by
  simp only[Ty.flat,Yj] at hf;rw[e,e',h1.uniq hf.1 h1',h2.uniq hf.2 h2']
theorem Qq1(s:ByteArray):(s==s)=true:=(MapKept.bytes_beq s s).2 rfl
theorem QbB{w:World}{S:Nat→Prop}(n:Nat):∀{u:Ty} {x:Den u} {vs:List Value},QaG u=true→CR w S u x vs→∀v∈vs,Instr.sameBits n v v=true
 |.int _,_,_,_,h=>by intro v hv;rw[show _=_ from h] at hv;simp at hv;subst hv;simp[Instr.sameBits]
 |.ints _ _,_,_,hf,_=>by cases hf
 |.bool,_,_,_,h=>by intro v hv;rw[show _=_ from h] at hv;simp at hv;subst hv;simp[Instr.sameBits]
 |.str,_,_,_,h=>by intro v hv;rw[show _=_ from h] at hv;simp at hv;subst hv;simp[Instr.sameBits,Qq1]
 |.sl _,_,_,hf,_=>by cases hf
 |.pair a b,_,_,hf,⟨r,s,e,h1,h2⟩=>by
  simp only[QaG,Yj] at hf;intro v hv;subst e;rcases YN.1 hv with hv|hv
  ·exact QbB n hf.1 h1 v hv
  ·exact QbB n hf.2 h2 v hv
theorem Qlt{ka:Bool}{kt:Ty}{d:Den kt}{v:Value}(hf:QaG kt=true)(h:KV ka kt d v):Instr.sameBits 10000 v v=true:=by
 obtain⟨vs,hc,h⟩:=h;have hc:=hc default fun _=>True
 rcases h with⟨_,rfl⟩|⟨_,rfl⟩
 ·have:=QbB 9999 hf hc;simp only[Instr.sameBits,beq_self_eq_true,Bool.true_and,List.all_eq_true];intro p hp
  have:p.1=p.2∧p.1∈vs:=by
   have hz:∀(l:List Value) (p:Value×Value),p∈l.zip l→p.1=p.2∧p.1∈l:=by
    intro l
    induction l with
    |nil=>intro p hp;simp at hp
    |cons a l ih =>
     intro p hp;simp only[List.zip_cons_cons,Yt] at hp;rcases hp with rfl|hp
     ·exact⟨rfl,by simp⟩
     ·obtain⟨e1,e2⟩:=ih p hp;exact⟨e1,YP _ e2⟩
   exact hz vs p hp
  rw[←this.1];exact QbB 9999 hf hc p.1 this.2
 ·exact QbB 10000 hf hc v (by simp)
theorem Qxq{ka:Bool}{kt:Ty}{d:Den kt}{v v':Value}(hf:QaG kt=true)(h:KV ka kt d v)(h':KV ka kt d v'):v=v':=by
 obtain⟨vs,hc,h⟩:=h;obtain⟨us,hd,h'⟩:=h';have:=(hc default fun _=>True).uniq (Qbw hf) (hd default fun _=>True);subst this;rcases h with⟨h1,rfl⟩|⟨h1,h2⟩<;>rcases h' with⟨h1',rfl⟩|⟨h1',h2'⟩
 ·rfl
 ·rw[h1] at h1';cases h1'
 ·rw[h1] at h1';cases h1'
 ·rw[h2] at h2';injection h2'
def Qlu(P:Program)(k:TypeId)(ka:Bool)(kt:Ty):Prop :=
 (ka=false∧Qal P k=false∧((∃i,kt=.int i∧P.underlying k=some (.int i))∨(kt=.bool∧P.underlying k=some .bool)∨(kt=.str∧P.underlying k=some .string))) ∨
 (ka=true∧Qal P k=true∧(∃F,P.underlying k=some (.struct F))∧P.keyTypeAt 30 k=true∧Qbj P 30 kt k=true)
theorem QgK{n m d:Nat}(em:Bool)(IH:∀(u:Ty) (t:TypeId),Qbj P n u t=true→P.keyTypeAt m t=true→QaG u=true→∀(w w0:World) (S:Nat→Prop) (x:Value) (vs:List Value) (dx:Den u),Form P t x vs→CR w0 S u dx vs→(Instr.checkKey em d t x).run P w=.ok () w)
 {xs:Array Value} {w w0:World} {S:Nat→Prop}:∀(fs:List Field) (u:Ty) (off:Nat) (px vs:List Value) (dx:Den u),QeF P (Qbj P n) u fs off=true→QaG u=true→(∀f∈fs,f.name≠ "_"∧P.keyTypeAt m f.type=true) →
 xs.toList=px++vs→px.length=off→CR w0 S u dx vs→(forIn fs PUnit.unit fun(f:Field) (r:PUnit)=>do
  if f.name≠ "_" then
   let v ←part f.type xs f.offset
   Instr.checkKey em d f.type v
   pure (ForInStep.yield PUnit.unit)
  else pure (ForInStep.yield PUnit.unit)).run P w=.ok PUnit.unit w
 | [],u,_,_,_,_,h,_,_,_,_,_=>by simp[QeF] at h
 | [f],u,off,px,vs,dx,h,hk,hn,hx,hpx,cx=>by
   simp only[QeF,Yj] at h;obtain⟨⟨h1,h2⟩,h3⟩:=h;have h2:=Yg h2;have h3:=Yg h3;obtain⟨hn1,hk1⟩:=hn f (by simp);obtain⟨D,i,hu,hi⟩:=Qg3 hk1;obtain⟨a,ha,fa⟩:=Qc8 hi hu (xs:=xs) (pre:=px) (r:=vs) (s:=[]) (by simp[hx]) (by rw[cx.len,h3]) (fun hg=>by rw[cx.len];exact Qen h1 hg) w;have he:=IH u f.type h1 hk1 hk w w0 S a vs dx fa cx;rw[hpx,←h2] at ha;simp only[List.forIn_cons,List.forIn_nil,Sem.run_bind,hn1,ne_eq,not_false_eq_true,if_true,Result.andThen_ok,ha,he,Sem.run_pure]
 |f::g::fs,u,off,px,vs,dx,h,hk,hn,hx,hpx,cx=>by
  cases u with
  |pair p q =>
   simp only[QeF,Yj] at h;obtain⟨⟨⟨h1,h2⟩,h3⟩,h4⟩:=h;have h2:=Yg h2;have h3:=Yg h3;simp only[QaG,Yj] at hk;obtain⟨hn1,hk1⟩:=hn f (by simp);obtain⟨D,i,hu,hi⟩:=Qg3 hk1;obtain⟨r,s,rfl,cx1,cx2⟩:=cx;obtain⟨a,ha,fa⟩:=Qc8 hi hu (xs:=xs) (pre:=px) (r:=r) (s:=s) (by simp[hx]) (by rw[cx1.len,h3]) (fun hg=>by rw[cx1.len];exact Qen h1 hg) w;have he:=IH p f.type h1 hk1 hk.1 w w0 S a r dx.1 fa cx1;have rest:=QgK em IH (xs:=xs) (w:=w) (g::fs) q (off+p.size) (px++r) s dx.2 h4 hk.2 (fun f' hf'=>hn f' (YP _ hf')) (by simp[hx]) (by simp[hpx,cx1.len]) cx2;rw[hpx,←h2] at ha;rw[List.forIn_cons];simp only[Sem.run_bind,hn1,ne_eq,not_false_eq_true,if_true,Result.andThen_ok,ha,he,Sem.run_pure];exact rest
  |_=>simp[QeF] at h
theorem Qlv(em:Bool):∀(n m:Nat) (u:Ty) (t:TypeId),Qbj P n u t=true→P.keyTypeAt m t=true→QaG u=true→∀(d:Nat),n+1≤d→∀(w w0:World) (S:Nat→Prop) (x:Value) (vs:List Value) (dx:Den u),Form P t x vs→CR w0 S u dx vs →
 (Instr.checkKey em d t x).run P w=.ok () w
 |0,_,u,t,h,_,_=>by simp[Qbj] at h
 |n+1,0,u,t,_,h,_=>by simp[Program.keyTypeAt] at h
 |n+1,m+1,u,t,h,hk,hf=>by
  intro d hd w w0 S x vs dx fx cx;obtain⟨d,rfl⟩:∃d',d=d'+1:=⟨d-1,by omega⟩
  unfold Qbj at h;split at h
  ·rename_i hu;have hg:Qal P t=false:=by simp[Qal,hu]
   simp only[CR] at cx;subst cx;rcases fx with⟨_,h'⟩|⟨fx,_⟩
   ·rw[hg] at h';cases h'
   injection fx with fx _
   subst fx;simp[Instr.checkKey,run_underlying hu]
  ·rename_i hu;have hg:Qal P t=false:=by simp[Qal,hu]
   simp only[CR] at cx;subst cx;rcases fx with⟨_,h'⟩|⟨fx,_⟩
   ·rw[hg] at h';cases h'
   injection fx with fx _
   subst fx;simp[Instr.checkKey,run_underlying hu]
  ·rename_i hu;have hg:Qal P t=false:=by simp[Qal,hu]
   simp only[CR] at cx;subst cx;rcases fx with⟨_,h'⟩|⟨fx,_⟩
   ·rw[hg] at h';cases h'
   injection fx with fx _
   subst fx;simp[Instr.checkKey,run_underlying hu]
  ·cases hf
  ·rename_i F hu;have hg:Qal P t=true:=by simp[Qal,hu]
   rcases fx with⟨rfl,_⟩|⟨_,h'⟩
   ·simp only[Yj] at h;unfold Program.keyTypeAt at hk;simp only[hu,Yj,Bool.not_eq_true',Array.all_eq_true'] at hk;obtain⟨⟨hall,_⟩,hst⟩:=hk;rw[Instr.checkKey];simp only[Sem.run_bind,run_underlying hu,Result.andThen_ok];rw[←Array.forIn_toList]
    have:=QgK em (n:=n) (m:=m) (d:=d) (fun u t h1 h2 h3=>Qlv em n m u t h1 h2 h3 d (by omega)) (xs:=vs.toArray) (w:=w) F.toList _ 0 [] vs dx h.1 hf (fun f hf=>by
     have:=hall f (by simpa using hf)
     simpa using this) (by simp) rfl cx
    simp at this ⊢;rw[this];rfl
   ·rw[hg] at h';cases h'
  ·cases hf
  ·cases h
theorem QhA{k:TypeId}{kt:Ty}(hk:Qlu P k false kt){d d':Den kt}{v v':Value}(h:KV false kt d v)(h':KV false kt d' v'):∃D,P.underlying k=some D∧Instr.sameNow D v v'=some (QD kt d d')∧(∀em n w,(Instr.checkKey em (n+1) k v).run P w=.ok () w):=by
 obtain⟨vs,hc,h⟩:=h;obtain⟨us,hd,h'⟩:=h';have hc:=hc default fun _=>True
 have hd:=hd default fun _=>True
 rcases h with⟨h1,_⟩|⟨_,rfl⟩
 ·cases h1
 rcases h' with⟨h1,_⟩|⟨_,rfl⟩
 ·cases h1
 rcases hk with⟨_,_,hk⟩|⟨hk,_⟩
 ·rcases hk with⟨i,rfl,hu⟩|⟨rfl,hu⟩|⟨rfl,hu⟩
  ·simp only[CR] at hc hd;injection hc with hc _;injection hd with hd _
   subst hc;subst hd;exact⟨_,hu,by simp[Instr.sameNow,QD];rfl,fun em n w=>by simp[Instr.checkKey,run_underlying hu]⟩
  ·simp only[CR] at hc hd;injection hc with hc _;injection hd with hd _
   subst hc;subst hd;exact⟨_,hu,by simp[Instr.sameNow,QD],fun em n w=>by simp[Instr.checkKey,run_underlying hu]⟩
  ·simp only[CR] at hc hd;injection hc with hc _;injection hd with hd _
   subst hc;subst hd;refine⟨_,hu,?_,fun em n w=>by simp[Instr.checkKey,run_underlying hu]⟩;simp only[Instr.sameNow,QD,Yc,Qm];rw[YI,MapKept.bytes_beq,Lib.bytes_beq_iff]
 ·cases hk
theorem Qm8.at_{ka:Bool}{kt vt:Ty}:∀{l:List (Den kt×Den vt)} {es:List MapEntry},Qm8 ka kt vt l es→l.length=es.length
 | [],[],_=>rfl
 |_::_,_::_,⟨_,_,h⟩=>by simp[h.at_]
 | [],_::_,h=>h.elim
 |_::_,[],h=>h.elim
theorem Qm8.push{ka:Bool}{kt vt:Ty}{k:Den kt}{v:Den vt}{e:MapEntry}(hk:KV ka kt k e.key)(hv:∀w S,CR w S vt v [e.val]):∀{l:List (Den kt×Den vt)} {es:List MapEntry},Qm8 ka kt vt l es→Qm8 ka kt vt (l++[(k,v)]) (es++[e])
 | [],[],_=>⟨hk,hv,trivial⟩
 |_::_,_::_,⟨h1,h2,h⟩=>⟨h1,h2,h.push hk hv⟩
 | [],_::_,h=>h.elim
 |_::_,[],h=>h.elim
inductive Found(ka:Bool)(kt vt:Ty)(l:List (Den kt×Den vt))(es:List MapEntry)(d:Den kt)(kv:Value)(i:Nat):Option (Nat×Value)→Prop where
 |none:Qan l d=Option.none→(∀v,Qaw l d v=l++[(d,v)])→Found ka kt vt l es d kv i Option.none
 |some (j:Nat) (e:MapEntry) (v0:Den vt):es[j]?=Option.some e→e.key=kv→Qan l d=Option.some v0→(∀w S,CR w S vt v0 [e.val]) →
   (∀v e',e'.key=kv→(∀w S,CR w S vt v [e'.val])→Qm8 ka kt vt (Qaw l d v) (es.set j e'))→Found ka kt vt l es d kv i (Option.some (i+j,e.val))
theorem Found.cons{ka:Bool}{kt vt:Ty}{p:Den kt×Den vt}{l:List (Den kt×Den vt)}{e0:MapEntry}{es:List MapEntry}{d:Den kt}{kv:Value}{i:Nat}{r:Option (Nat×Value)}(hne:QD kt d p.1=false)(h0:KV ka kt p.1 e0.key)(h1:∀w S,CR w S vt p.2 [e0.val])
 (h:Found ka kt vt l es d kv (i+1) r):Found ka kt vt (p::l) (e0::es) d kv i r:=by
 cases h with
 |none g1 g2=>exact .none (by simp only[Qan,hne,g1]) (fun v=>by simp only[Qaw,hne,g2,List.cons_append])
 |some j e v0 g1 g2 g3 g4 g5 =>
  have e1:i+1+j=i+(j+1):=by omega
  rw[e1]
  exact .some (j+1) e v0 (by simpa using g1) g2 (by simp only[Qan,hne,g3]) g4 (fun v e' k1 k2=>by
   simp only[Qaw,hne,List.set_cons_succ]
   exact⟨h0,h1,g5 v e' k1 k2⟩)
theorem Found.here{ka:Bool}{kt vt:Ty}{p:Den kt×Den vt}{l:List (Den kt×Den vt)}{e0:MapEntry}{es:List MapEntry}{d:Den kt}{kv:Value}{i:Nat}(hf:QaG kt=true)(hd:KV ka kt d kv)(he:QD kt d p.1=true)(h0:KV ka kt p.1 e0.key)(h1:∀w S,CR w S vt p.2 [e0.val])
 (hr:Qm8 ka kt vt l es):Found ka kt vt (p::l) (e0::es) d kv i (Option.some (i,e0.val)):=by
 have e:=Qdw (Qbw hf) he
 have:=Found.some (ka:=ka) (l:=p::l) (es:=e0::es) (d:=d) (kv:=kv) (i:=i) 0 e0 p.2 rfl (Qxq hf (e ▸ h0) hd) (by simp only[Qan,he]) h1 (fun v e' k1 k2=>by
  simp only[Qaw,he,Ji]
  exact⟨k1 ▸ hd,k2,hr⟩)
 simpa using this
theorem QoD{k:TypeId}{kt vt:Ty}(hk:Qlu P k false kt)(hf:QaG kt=true){d:Den kt}{kv:Value}(hd:KV false kt d kv){D:TypeDesc}(hD:P.underlying k=some D):∀(l:List (Den kt×Den vt)) (es:List MapEntry) (i:Nat),Qm8 false kt vt l es →
 ∃r,Instr.findNow D kv es i=some r∧Found false kt vt l es d kv i r
 | [],[],i,_=>⟨none,rfl,.none rfl fun v=>rfl⟩
 |p::l,e::es,i,⟨h0,h1,h2⟩=>by
  obtain⟨D',hu,hs,_⟩:=QhA hk hd h0;rw[hD] at hu;injection hu with hu
  subst hu;unfold Instr.findNow;rw[hs];cases hb:QD kt d p.1 with
  |true=>exact⟨_,rfl,Found.here hf hd hb h0 h1 h2⟩
  |false =>
   obtain⟨r,g1,g2⟩:=QoD hk hf hd hD l es (i+1) h2;exact⟨r,g1,g2.cons hb h0 h1⟩
 | [],_::_,_,h=>h.elim
 |_::_,[],_,h=>h.elim
theorem Qnd{k:TypeId}{kt:Ty}(hg:Qal P k=true){d:Den kt}{v:Value}(h:KV true kt d v):∃vs,Form P k v vs∧∀w S,CR w S kt d vs:=by
 obtain⟨vs,hc,h⟩:=h;rcases h with⟨_,rfl⟩|⟨h,_⟩
 ·exact⟨vs,.inl ⟨rfl,hg⟩,hc⟩
 ·cases h
theorem QhB{k:TypeId}{kt vt:Ty}(hk:Qlu P k true kt)(hf:QaG kt=true){d:Den kt}{kv:Value}(hd:KV true kt d kv){w:World}:∀(l:List (Den kt×Den vt)) (es:List MapEntry) (i:Nat),Qm8 true kt vt l es →
 ∃r,(Instr.findAsking k kv es i).run P w=.ok r w∧Found true kt vt l es d kv i r
 | [],[],i,_=>⟨none,by simp[Instr.findAsking],.none rfl fun v=>rfl⟩
 |p::l,e::es,i,⟨h0,h1,h2⟩=>by
  rcases hk with⟨hk,_⟩|⟨_,hg,hF,hkt,hty⟩
  ·cases hk
  obtain⟨vs,f1,c1⟩:=Qnd hg hd;obtain⟨us,f2,c2⟩:=Qnd hg h0;have heq:(Op.equal k kv e.key).run P w=.ok (QD kt d p.1) w:=QsX 30 30 kt k hty hkt 10000 (by omega) w w (fun _=>True) kv e.key vs us d p.1 f1 f2 (c1 _ _) (c2 _ _);unfold Instr.findAsking;simp only[Sem.run_bind,heq,Result.andThen_ok];cases hb:QD kt d p.1 with
  |true=>exact⟨_,by simp,Found.here hf hd hb h0 h1 h2⟩
  |false =>
   obtain⟨r,g1,g2⟩:=QhB (.inr ⟨rfl,hg,hF,hkt,hty⟩) hf hd l es (i+1) h2;exact⟨r,by simpa using g1,g2.cons hb h0 h1⟩
 | [],_::_,_,h=>h.elim
 |_::_,[],_,h=>h.elim
theorem QoE{k:TypeId}{ka:Bool}{kt vt:Ty}(hk:Qlu P k ka kt)(hf:QaG kt=true){d:Den kt}{kv:Value}(hd:KV ka kt d kv)(w:World){l:List (Den kt×Den vt)}{es:List MapEntry}(h:Qm8 ka kt vt l es) :
 (∃r,(Instr.findKey k kv es).run P w=.ok r w∧Found ka kt vt l es d kv 0 r)∧∀em,(Instr.checkKey em 10000 k kv).run P w=.ok () w:=by
 cases ka with
 |false =>
  have hu:∃D,P.underlying k=some D:=by
   rcases hk with⟨_,_,hk⟩|⟨hk,_⟩
   ·rcases hk with⟨i,_,hu⟩|⟨_,hu⟩|⟨_,hu⟩<;>exact⟨_,hu⟩
   ·cases hk
  obtain⟨D,hu⟩:=hu;obtain⟨r,h1,h2⟩:=QoD hk hf hd hu l es 0 h;obtain⟨_,_,_,h3⟩:=QhA hk hd hd;exact⟨⟨r,MapKept.run_findKey hu h1,h2⟩,fun em=>h3 em 9999 w⟩
 |true =>
  obtain⟨r,h1,h2⟩:=QhB hk hf hd (w:=w) l es 0 h;rcases hk with⟨hk,_⟩|⟨_,hg,⟨F,hF⟩,hkt,hty⟩
  ·cases hk
  obtain⟨vs,f1,c1⟩:=Qnd hg hd;refine⟨⟨r,?_,h2⟩,fun em=>Qlv em 30 30 kt k hty hkt hf 10000 (by omega) w w (fun _=>True) kv vs d f1 (c1 _ _)⟩;rw[run_findKey_eq w (by rw[hF])];exact h1
theorem Qgh{E:Env}(hH:HeapOk E){ka:Bool}{kt:Ty}(hf:QaG kt=true){x:AV}{v:Value}{d:Den kt}(hx:AVR E x v)(h:Qjc ka kt x=some d):KV ka kt d v:=by
 unfold Qjc at h;split at h
 ·rename_i c;split at h
  ·rename_i d' us hd;injection h with h
   subst h;have:CR E.w (SU E us) kt d' [v]:=QbJ hH (fun b x hx=>by cases hx) hd (show IR E [c] [v] from⟨[v],[],rfl,hx,rfl⟩);exact⟨[v],fun w S=>this.flat (Qbw hf),.inr ⟨rfl,rfl⟩⟩
  ·cases h
 ·rename_i cs;split at h
  ·rename_i d' us hd;injection h with h
   subst h;obtain⟨vals,rfl,hi⟩:=hx;have:=QbJ hH (fun b x hx=>by cases hx) hd hi;exact⟨vals.toList,fun w S=>this.flat (Qbw hf),.inl ⟨rfl,by simp⟩⟩
  ·cases h
 ·cases h
theorem Qne{t:Ty}(h:Qg1 t=true):QaG t=true:=by cases t<;>first|rfl|cases h
theorem Qq2{E:Env}(hH:HeapOk E){vt:Ty}(hf:Qg1 vt=true){x:AV}{v:Value}{d:Den vt}(hx:AVR E x v)(h:Qjc false vt x=some d):∀w S,CR w S vt d [v]:=by
 obtain⟨vs,hc,h⟩:=Qgh hH (Qne hf) hx h;rcases h with⟨h,_⟩|⟨_,rfl⟩
 ·cases h
 ·exact hc
theorem TyOk.zeroN{t:TypeId}{ti:TI}(h:TyOk P t ti):∃z,(∀w,(zeroValue t).run P w=.ok z w)∧(∀E:Env,IR E ti.zero z.cells.toList)∧z.cells.size=ti.size ∧
 (∀u,ti.ety=some u→u.size=ti.size∧∀w S,CR w S u (dflt u) z.cells.toList)∧(ti.isAgg=false→z.cells.toList=[z]):=by
 obtain⟨i,z,h1,h2,h3,h4,h5,h6,h7⟩:=h.inf;exact⟨z,fun w=>by simp[zeroValue,typeInfo,h1,h4],h5,h6,h7,fun hg=>h.nag hg i z h1 h4⟩
theorem Qs0(hT:TabOk P T){t:TypeId}{ka:Bool}{kt vt:Ty}(h:Qom T t ka kt vt=true):∃k e,P.underlying t=some (.map k e)∧Qlu P k ka kt∧QaG kt=true∧Qg1 vt=true ∧
 ∃z,(∀w,(zeroValue e).run P w=.ok z w)∧∀w S,CR w S vt (dflt vt) [z]:=by
 unfold Qom at h;split at h
 ·rename_i ka' kt' vt' hm;simp only[Yj,YB] at h;obtain⟨⟨rfl,rfl⟩,rfl⟩:=h;unfold Qm5 at hm;split at hm
  ·rename_i k e _ _ _ _ _ ht;have hu:=(hT.ty t _ ht).und;simp only[QZ] at hu;split at hm
   ·rename_i ki ei hki hei;split at hm
    ·rename_i kt vt hkt hvt;split at hm
     ·rename_i hc;injection hm with hm
      injection hm with e1 e2
      injection e2 with e2 e3
      subst e1;subst e2;subst e3;simp only[Yj,Bool.not_eq_true'] at hc;obtain⟨⟨⟨c1,c2⟩,c3⟩,c4⟩:=hc;refine⟨k,e,hu,?_,c2,c3,?_⟩
      ·have hkok:=hT.ty k _ hki;have hd:=hkok.und;unfold QFn at c1;split at c1
       ·rename_i i i' hdk;simp only[YB] at c1;subst c1;rw[hdk] at hd;simp only[QZ] at hd;exact .inl ⟨by unfold TI.isAgg;rw[hdk],by simp[Qal,hd],.inl ⟨_,rfl,hd⟩⟩
       ·rename_i hdk;rw[hdk] at hd;simp only[QZ] at hd;exact .inl ⟨by unfold TI.isAgg;rw[hdk],by simp[Qal,hd],.inr (.inl ⟨rfl,hd⟩)⟩
       ·rename_i hdk;rw[hdk] at hd;simp only[QZ] at hd;exact .inl ⟨by unfold TI.isAgg;rw[hdk],by simp[Qal,hd],.inr (.inr ⟨rfl,hd⟩)⟩
       ·rename_i hdk;have hcmp:=hkok.cmp c1;rw[hkt] at hcmp;simp only[Qxh,Yj,Bool.not_eq_true'] at hcmp;obtain⟨⟨⟨g1,g2⟩,g3⟩,_⟩:=hcmp;rw[hdk] at hd;simp only[QZ] at hd;obtain⟨F,hF,_⟩:=hd;exact .inr ⟨by unfold TI.isAgg;rw[hdk],g1,⟨F,hF⟩,g2,g3⟩
       ·cases c1
      ·have heok:=hT.ty e _ hei;obtain⟨z,z1,_,z3,z4,z5⟩:=heok.zeroN;obtain⟨hsz,hcr⟩:=z4 _ hvt;refine⟨z,z1,fun w S=>?_⟩;have:=hcr w S;have hz:z.cells.toList=[z]:=z5 c4;rwa[hz] at this
     ·cases hm
    ·cases hm
   ·cases hm
  ·cases hm
 ·cases h
theorem Qnf{E:Env}(hH:HeapOk E){t:TypeId}{ka:Bool}{kt vt:Ty}{nm:Nat}(hnm:¬E.U nm):∃E',(Instr.makeMap t none).run P E.w=.ok (.map (some E.w.heap.size)) E'.w ∧
 Step E { pre:=none,val:=.cell (.map nm),add:=[.mp ka kt vt []],set:=[] } nm E'∧AVR E' (.cell (.map nm)) (.map (some E.w.heap.size)):=by
 refine⟨newE E nm (.mp ka kt vt []) (E.w.alloc (.map #[] 0)),rfl,Step.newM (cl:=0) hH rfl rfl hnm rfl rfl rfl rfl,?_⟩;refine⟨_,⟨rfl,rfl⟩,.inr rfl,fun ka' kt' vt' l' _=>⟨E.w.heap.size,?_,rfl⟩⟩;show(if nm=nm then some E.w.heap.size else E.ρ nm)=_;rw[Yf rfl]
theorem Qjj{E:Env}{look:Nat→Option Blk}(hT:TabOk P T)(hH:HeapOk E)(hl:∀b x,look b=some x→E.H b=some x){t:TypeId}{m k x:AV}{vm vk vx:Value}{r:Res}{nm:Nat}(hm:AVR E m vm)(hk:AVR E k vk)(hx:AVR E x vx)(h:QjO T look t m k x=some r) :
 ∃E',(Instr.mapUpdate t vm vk vx).run P E.w=.ok () E'.w∧Step E r nm E'∧r.val=.dead:=by
 unfold QjO at h;split at h
 ·rename_i b;split at h
  ·rename_i ka kt vt l hb;split at h
   ·rename_i hi;split at h
    ·rename_i d v hd hv;injection h with h
     subst h;obtain⟨key,elem,hu,hfit,hflat,hsc,_⟩:=Qs0 hT hi;have hbx:=hl _ _ hb;obtain⟨v0,⟨e,_⟩,_,hh⟩:=hm;injection e with e
     subst e;obtain⟨g,hr,rfl⟩:=hh _ _ _ _ hbx;obtain⟨_,⟨g',es,c,h1,h2,h3⟩,_⟩:=hH.blk _ _ hbx;rw[hr] at h1;injection h1 with h1
     subst h1;have hkv:=Qgh hH hflat hk hd;have hvv:=Qq2 hH hsc hx hv;obtain⟨⟨res,hf,hfound⟩,hck⟩:=QoE hfit hflat hkv E.w h3;have hset:=fun o'=>MapKept.heap_set (o':=o') h2
     have wr:∀es' c',WritesM E g es es' c c' { E.w with heap:=E.w.heap.setIfInBounds g (.map es' c') }:=fun es' c' =>
      ⟨h2,(hset (.map es' c')).1,(hset (.map es' c')).2,by simp,rfl,rfl,rfl⟩
     cases hfound with
     |none g1 g2 =>
      refine⟨_,?_,Step.setM hH rfl rfl hbx hr (wr (es.push ⟨vk,vx,c⟩) (c+1)) ?_,rfl⟩
      ·simp[Instr.mapUpdate,run_underlying hu,MapKept.run_getObj_map h2,hck,hf,MapKept.run_setObj_map _ h2,QdY]
      ·rw[g2,Array.toList_push];exact Qm8.push hkv hvv h3
     |some j e v0 g1 g2 g3 g4 g5 =>
      have hj:es[j]?=some e:=by rw[←YA];exact g1
      have hst:(Instr.keyThatStays vk vk).run P E.w=.ok vk E.w:=by simp[Instr.keyThatStays,Qlt hflat hkv]
      refine⟨_,?_,Step.setM hH rfl rfl hbx hr (wr (es.modify j fun e=>{ e with key:=vk,val:=vx }) c) ?_,rfl⟩
      ·have hlt:j<es.size:=(Jg.1 hj).1;simp[Instr.mapUpdate,run_underlying hu,MapKept.run_getObj_map h2,hck,hf,MapKept.run_setObj_map _ h2,QdY,hj,g2,hst]
      ·have e1:(es.modify j fun e=>{ e with key:=vk,val:=vx }).toList=es.toList.set j { e with key:=vk,val:=vx }:=by
        rw[Array.toList_modify];apply List.ext_getElem?;intro i;rw[List.getElem?_modify,YY];by_cases hij:j=i
        ·subst hij;have hlt:j<es.toList.length:=(Yu.1 g1).1;simp[g1,hlt];simpa using hlt
        ·simp[hij]
       rw[e1];exact g5 v _ rfl hvv
    ·cases h
   ·cases h
  ·cases h
 ·cases h
theorem Qxr{vt:Ty}{w:World}{S:Nat→Prop}{o:Option (Den vt)}{d:Den vt}{v:Value}(h:CR w S vt (QgV o d) [v]){E:Env}(hw:E.w=w)(hS:E.S=S){c:Cell}(hc:cells vt (QgV o d)=[c]):QaI E c [v]:=by
 subst hw;subst hS;have:=h.items;rw[hc] at this;obtain⟨r,s,e,h1,h2⟩:=this;simp only[IR] at h2;subst h2;simp at e;subst e;exact h1
theorem Qq3{E:Env}{look:Nat→Option Blk}(hT:TabOk P T)(hH:HeapOk E)(hl:∀b x,look b=some x→E.H b=some x){t:TypeId}{m k:AV}{ok:Bool}{vm vk:Value}{r:Res}(hm:AVR E m vm)(hk:AVR E k vk)(h:Qm6 T look t m k ok=some r) :
 ∃v,(Instr.lookup t vm vk ok).run P E.w=.ok v E.w∧AVR E r.val v∧r.add=[]∧r.set=[]:=by
 unfold Qm6 at h;split at h
 ·rename_i b;split at h
  ·rename_i ka kt vt l hb;split at h
   ·rename_i hi;split at h
    ·rename_i d hd;split at h
     ·rename_i c hc;obtain⟨key,elem,hu,hfit,hflat,hsc,z,hz1,hz2⟩:=Qs0 hT hi;have hbx:=hl _ _ hb;obtain⟨v0,⟨e,_⟩,_,hh⟩:=hm;injection e with e
      subst e;obtain⟨g,hr,rfl⟩:=hh _ _ _ _ hbx;obtain⟨_,⟨g',es,cl,h1,h2,h3⟩,_⟩:=hH.blk _ _ hbx;rw[hr] at h1;injection h1 with h1
      subst h1;have hkv:=Qgh hH hflat hk hd;obtain⟨⟨res,hf,hfound⟩,hck⟩:=QoE hfit hflat hkv E.w h3
      have fin:∀(v:Value) (b:Bool),(∀w S,CR w S vt (QgV (Qan l d) (dflt vt)) [v])→b=QjP (Qan l d)→(Instr.lookup t (.map (some g)) vk ok).run P E.w=.ok (if ok then .tuple #[v,.bool b] else v) E.w→∃v,(Instr.lookup t (.map (some g)) vk ok).run P E.w=.ok v E.w∧AVR E r.val v∧r.add=[]∧r.set=[]:=by
       intro v b hv hbb hrun;subst hbb;have hcell:=Qxr (hv E.w E.S) rfl rfl hc;cases ok with
       |true =>
        simp only[ok1,Yc] at h;subst h;exact⟨_,hrun,⟨#[v,.bool (QjP (Qan l d))],rfl,v,[.bool (QjP (Qan l d))],rfl,hcell,_,[],rfl,⟨rfl,rfl⟩,rfl⟩,rfl,rfl⟩
       |false =>
        simp only[ok1,Yc] at h;subst h;exact⟨_,hrun,hcell,rfl,rfl⟩
      cases hfound with
      |none g1 g2 =>
       refine fin z false (fun w S=>by rw[g1];exact hz2 w S) (by rw[g1];rfl) ?_;cases ok<;>simp[Instr.lookup,run_underlying hu,MapKept.run_getObj_map h2,hck,hf,hz1]
      |some j e v0 g1 g2 g3 g4 g5 =>
       refine fin e.val true (fun w S=>by rw[g3];exact g4 w S) (by rw[g3];rfl) ?_;cases ok<;>simp[Instr.lookup,run_underlying hu,MapKept.run_getObj_map h2,hck,hf]
     ·cases h
    ·cases h
   ·cases h
  ·cases h
 ·cases h
theorem QoF{w:World}{S:Nat→Prop}:∀{l:List Int} {us:List Value},Qw (CR w S (.int .u8)) l us→us=l.map (.int .u8)
 | [],_,h=>h
 |n::l,_,⟨r,s,e,h1,h2⟩=>by
  have h1:r=[.int .u8 n]:=h1;rw[e,h1,QoF h2];rfl
theorem Qlw:∀(ns:List Int) (s:ByteArray),ns.foldl (fun r n=>r.push (UInt8.ofNat n.toNat)) s=⟨s.data++(ns.map fun n=>UInt8.ofNat n.toNat).toArray⟩
 | [],s=>by simp
 |n::ns,s=>by
  rw[List.foldl_cons,Qlw ns];congr 1;apply Array.ext';simp[ByteArray.push]
theorem Qs1{w:World}{S S':Nat→Prop}{l:List Int}{v:Value}(h:SlR w S (CR w S' (.int .u8)) l v):(Conv.bytesToString v).run P w=.ok (.string (Qm4 l)) w:=by
 obtain⟨a,cap,rfl,hcap,hh⟩:=h;cases a with
 |none =>
  cases l with
  |nil=>rfl
  |cons x l=>obtain⟨ad,_,h,_⟩:=hh (by simp);cases h
 |some ad =>
  have key:∀j (n:Int),l[j]?=some n→w.cell? (ad.add j)=some (.int .u8 n):=by
   intro j n hj;have hne:l≠[]:=by intro e;subst e;simp at hj
   obtain⟨ad',us,e,_,hl,hc⟩:=hh hne;injection e with e
   subst e;have:=QoF hl;subst this;exact hc j _ (by simp[hj])
  have hload:=run_loadCells_list (P:=P) w ad (l.map (.int .u8)) (fun j v hv=>by
   rw[Jc] at hv;cases hj:l[j]? with
   |none=>rw[hj] at hv;cases hv
   |some n=>rw[hj] at hv;injection hv with hv;subst hv;exact key j n hj)
  rw[Jf] at hload;rw[run_bytesToString w ad l.length cap l hload,Qlw];congr 3;simp
def roE(E:Env)(w':World):Env:={ E with w:=w',S:=fun g=>E.S g∨g=E.w.heap.size }
theorem Step.newRo{E:Env}{r:Res}{nm:Nat}{w':World}{o:Obj}(hH:HeapOk E)(hr1:r.add=[])(hr2:r.set=[])(hw:w'.heap=E.w.heap.push o)(h1:w'.os=E.w.os)(h2:w'.tape=E.w.tape)(h3:w'.output=E.w.output):Step E r nm (roE E w'):=by
 have hext:Ext E (roE E w'):=by
  refine⟨fun g hg=>⟨.inl hg,Qce hw (hH.st g hg)⟩,fun b hb=>hb,fun b x' hb hx=>⟨x',hx,rfl,rfl,fun g cs el hr hc=>⟨cs,?_,rfl⟩⟩⟩;rw[show(roE E w').w=w' from rfl,Qce hw (Jg.1 hc).1];exact hc
 refine⟨hext,⟨fun b x hx=>?_,fun b b' x x' g hx hx' hr hr'=>hH.inj b b' x x' g hx hx' hr hr',fun g hg=>?_⟩,fun b=>by rw[hr1,hr2];rfl,fun b=>by rw[hr1];simp[roE];omega,fun F h=>⟨h1.trans h.os,h2.trans h.tape,h3.trans h.output,?_,fun g hg ho=>?_,fun b x g hx hr=>h.own b x g hx hr,fun g hg=>?_⟩⟩
 ·obtain⟨k1,k2,k3⟩:=hH.blk b x hx;refine⟨k1,k2.ext hext rfl (fun g hg=>Qce hw (QaU hH hx hg).1),fun g hg hs=>?_⟩;rcases hs with hs|hs
  ·exact k3 g hg hs
  ·have:=(QaU hH hx hg).1;omega
 ·rw[show(roE E w').w=w' from rfl,hw];rcases hg with hg|hg
  ·have:=hH.st g hg;simp;omega
  ·simp;omega
 ·rw[show(roE E w').w=w' from rfl,hw];have:=h.size;simp;omega
 ·rw[show(roE E w').w=w' from rfl,Qce hw (by have:=h.size;omega)];exact h.old g hg ho
 ·rcases hg with hg|hg
  ·exact h.S g hg
  ·have:=h.size;exact .inr (.inl (by omega))
theorem Qlx{E:Env}(hH:HeapOk E){s d e:TypeId}(t:ByteArray){nm:Nat}(hs:P.underlying s=some .string)(hd:P.underlying d=some (.slice e))(he:P.underlying e=some (.int .u8)) :
 ∃v E',(convert s d (.string t)).run P E.w=.ok v E'.w∧Step E { pre:=none,val:=.cell (.ro (.int .u8) (bytesOf t)),add:=[],set:=[] } nm E'∧AVR E' (.cell (.ro (.int .u8) (bytesOf t))) v:=by
 refine⟨_,roE E _,run_bytes_of_string E.w s d e t hs hd he,Step.newRo hH rfl rfl rfl rfl rfl rfl,?_⟩;refine⟨_,rfl,some ⟨E.w.heap.size,0,none⟩,grownCap E.w t.size 0 e,by simp[bytesOf],?_,fun hne=>?_⟩
 ·have:t.size≤grownCap E.w t.size 0 e:=grownCap_ge E.w t.size 0 e;simpa[bytesOf] using this
 ·refine⟨_,_,rfl,.inr rfl,QeY t.data.toList,fun k u hk=>?_⟩;rw[QbA,Jh];have hb:(E.w.drew).heap.size=E.w.heap.size:=rfl;have:=World.cell?_alloc_mark E.w.drew (bytesRow t (grownCap E.w t.size 0 e)) e ((bytesRow t (grownCap E.w t.size 0 e)).size,(bytesRow t (grownCap E.w t.size 0 e)).size+1) k;rw[hb] at this;refine this.trans ?_;unfold bytesRow;have hlt:=(Yu.1 hk).1;rw[Jf] at hlt;rw[Array.getElem?_append_left (by simpa using hlt)];rw[Jc] at hk;rw[Array.getElem?_map];simpa using hk
end
section
variable {P:Program} {T:Tab}
theorem Qj2{look:Nat→Option Blk}:∀(f:Nat) (bs acc acc':List Nat),acc.Nodup→reach look f bs acc=some acc' →
 acc'.Nodup∧(∀b∈bs,b∈acc')∧(∀b∈acc,b∈acc')∧∀b∈acc',b∈acc∨∃x,look b=some x∧∀n∈x.names,n∈acc'
 |f,[],acc,acc',hn,h=>by
  have:acc=acc':=by cases f<;>simpa[reach] using h
  subst this;exact⟨hn,fun b hb=>by simp at hb,fun _ h=>h,fun b hb=>.inl hb⟩
 |0,b::bs,acc,acc',hn,h=>by simp[reach] at h
 |f+1,b::bs,acc,acc',hn,h=>by
  unfold reach at h;cases hc:acc.contains b with
  |true =>
   rw[hc] at h;simp only at h;obtain⟨h1,h2,h3,h4⟩:=Qj2 f bs acc acc' hn h;have hb:b∈acc:=by simpa using hc
   refine⟨h1,fun c hcm=>?_,h3,h4⟩;rcases Yt.1 hcm with rfl|hcm
   ·exact h3 _ hb
   ·exact h2 c hcm
  |false =>
   rw[hc] at h;simp only at h;cases hl:look b with
   |none=>rw[hl] at h;cases h
   |some x =>
    rw[hl] at h;simp only at h;have hb:b∉acc:=by simpa using hc
    obtain⟨h1,h2,h3,h4⟩:=Qj2 f (bs++x.names) (acc++[b]) acc' (by rw[List.nodup_append];exact⟨hn,by simp,fun a ha c hcm=>by simp at hcm;subst hcm;exact fun e=>hb (e ▸ ha)⟩) h;refine⟨h1,fun c hcm=>?_,fun c hcm=>h3 c (by simp[hcm]),fun c hcm=>?_⟩
    ·rcases Yt.1 hcm with rfl|hcm
     ·exact h3 _ (by simp)
     ·exact h2 c (by simp[hcm])
    ·rcases h4 c hcm with h5|h5
     ·rcases YN.1 h5 with h5|h5
      ·exact .inl h5
      ·simp at h5;subst h5;exact .inr ⟨x,hl,fun n hnm=>h2 n (by simp[hnm])⟩
     ·exact .inr h5
theorem Qoz:∀(l:List Nat) (i k b:Nat),l.Nodup→l[i]?=some b→QqR b l k=some (k+i)
 |x::l,0,k,b,hn,h=>by
  simp at h;subst h;unfold QqR;simp
 |x::l,i+1,k,b,hn,h=>by
  simp at h
  have hne:x≠b:=by
   rintro rfl
   exact(List.nodup_cons.1 hn).1 (List.mem_of_getElem? h)
  unfold QqR
  have:Nat.beq x b=false:=by
   rw[Bool.eq_false_iff];intro e;exact hne (Yg e)
  rw[this];show QqR b l (k+1)=_;rw[Qoz l i (k+1) b (List.nodup_cons.1 hn).2 h];simp only[Yc];omega
theorem QdL{acc:List Nat}{i b:Nat}(hn:acc.Nodup)(h:acc[i]?=some b):idx acc b=i:=by
 unfold idx;rw[Qoz acc i 0 b hn h];simp
theorem Qd1{acc:List Nat}{b:Nat}(hn:acc.Nodup)(h:b∈acc):acc[idx acc b]?=some b:=by
 obtain⟨i,hi⟩:=List.mem_iff_getElem?.1 h;rw[QdL hn hi];exact hi
theorem QoA:∀(acc:List Nat) (upd:List (Option Blk)) (H:Nat→Option Blk),acc.Nodup→upd.length=acc.length→∀b,Qgf H (acc.zip upd) b=if b∈acc then (upd[idx acc b]?).getD none else H b
 | [],upd,H,_,hl,b=>by
   have:upd=[]:=Yr hl;subst this;simp[Qgf]
 |a::acc,o::upd,H,hn,hl,b=>by
  have hn':=List.nodup_cons.1 hn;simp only[List.zip_cons_cons,Qgf];rw[QoA acc upd _ hn'.2 (by simpa using hl)];by_cases hb:b∈acc
  ·rw[Yf hb,Yf (by simp[hb])];have h1:=Qd1 hn'.2 hb;have h2:(a::acc)[idx acc b+1]?=some b:=by simpa using h1
   rw[QdL hn h2];simp
  ·rw[Yb hb];by_cases hba:b=a
   ·subst hba;have h2:(b::acc)[0]?=some b:=rfl;rw[Yf rfl,Yf (by simp),QdL hn h2];simp
   ·rw[Yb hba,Yb (by simp[hb,hba])]
 |a::acc,[],H,_,hl,b=>by simp at hl
def QeG(E:Env)(acc:List Nat)(bl:List Blk):Env :=
 { w:=E.w,ρ:=fun i=>(acc[i]?).bind E.ρ,S:=E.S,H:=fun i=>bl[i]?,U:=fun i=>i<bl.length }
theorem QoB{E:Env}(hH:HeapOk E){acc:List Nat}{bl:List Blk}(hn:acc.Nodup)(hlen:bl.length=acc.length)(hbl:∀(i b:Nat),acc[i]?=some b→∃x,E.H b=some x∧bl[i]?=some (x.rn (idx acc))){b:Nat}(hb:b∈acc):Qxn E (QeG E acc bl) (idx acc) b:=by
 intro hU;have h1:=Qd1 hn hb;refine⟨by show idx acc b<bl.length;rw[hlen];exact(Yu.1 h1).1,fun x hx=>?_⟩;obtain⟨y,hy,hy2⟩:=hbl _ _ h1;have hx:bl[idx acc b]?=some x:=hx;rw[hy2] at hx;injection hx with hx
 subst hx;exact⟨y,hy,QcI _ _,by simp[QeG,h1]⟩
theorem Qxp{E:Env}(hH:HeapOk E){acc:List Nat}{bl:List Blk}(hn:acc.Nodup)(hlen:bl.length=acc.length)(hbl:∀(i b:Nat),acc[i]?=some b→∃x,E.H b=some x∧bl[i]?=some (x.rn (idx acc))∧∀n∈x.names,n∈acc):HeapOk (QeG E acc bl):=by
 have hbl':∀(i b:Nat),acc[i]?=some b→∃x,E.H b=some x∧bl[i]?=some (x.rn (idx acc)):=fun i b h=>let ⟨x,h1,h2,_⟩:=hbl i b h;⟨x,h1,h2⟩
 have get:∀(i:Nat) x,bl[i]?=some x→∃b y,acc[i]?=some b∧E.H b=some y∧x=y.rn (idx acc)∧∀n∈y.names,n∈acc:=by
  intro i x hx;have hi:i<acc.length:=by rw[←hlen];exact(Yu.1 hx).1
  obtain⟨y,h1,h2,h3⟩:=hbl i acc[i] (Ye hi);rw[hx] at h2;injection h2 with h2
  exact⟨acc[i],y,Ye hi,h1,h2,h3⟩
 refine⟨fun i x hx=>?_,fun i i' x x' g hx hx' hr hr'=>?_,hH.st⟩
 ·obtain⟨b,y,h1,h2,rfl,h4⟩:=get i x hx;obtain⟨k1,k2,k3⟩:=hH.blk b y h2;have:=Qoq.rn (E:=E) (E':=QeG E acc bl) (f:=idx acc) (i:=b) rfl (.inl fun _ h=>h) (fun j hj=>QoB hH hn hlen hbl' (h4 j hj)) (by rw[QdL hn h1];simp[QeG,h1]) k2;rw[QdL hn h1] at this;exact⟨(Yu.1 hx).1,this,fun g hg=>k3 g (by simpa[QeG,h1] using hg)⟩
 ·obtain⟨b,y,h1,h2,rfl,h4⟩:=get i x hx;obtain⟨b',y',h1',h2',rfl,h4'⟩:=get i' x' hx';have:=hH.inj b b' y y' g h2 h2' (by simpa[QeG,h1] using hr) (by simpa[QeG,h1'] using hr');subst this;rw[←QdL hn h1,←QdL hn h1']
theorem Qq0{E:Env}(hH:HeapOk E){acc:List Nat}{bl:List Blk}{nm:Nat}{r:AV}{upd:List (Option Blk)}{fresh:List Blk}{p:Option Prop}{v:Value}{E':Env}(hn:acc.Nodup)(hlen:bl.length=acc.length)(hul:upd.length=acc.length)
 (hbl:∀(i b:Nat),acc[i]?=some b→∃x,E.H b=some x∧bl[i]?=some (x.rn (idx acc))) (hnm:∀k,k<fresh.length→¬E.U (nm+k)) (hb:Back (QeG E acc bl) bl.length r upd fresh v E') (back:Nat→Nat) (hback:∀i,back i=match acc[i]? with|some b=>b|none=>nm+(i-acc.length)) :
 ∃E'',E''.w=E'.w∧Step E { pre:=p,val:=r.rn back,add:=fresh.map (·.rn back),set:=acc.zip (upd.map fun o=>match o with|some b=>some (b.rn back)|none=>none) } nm E''∧AVR E'' (r.rn back) v:=by
 have hback1:∀i b,acc[i]?=some b→back i=b:=fun i b h=>by rw[hback,h]
 have hback2:∀i,acc.length≤i→back i=nm+(i-acc.length):=fun i h=>by rw[hback,YK h]
 have hown0:∀g,(Qhy (QeG E acc bl)).own0 g→∃b x,b∈acc∧E.H b=some x∧E.ρ b=some g:=by
  rintro g ⟨i,x,hx,hr⟩
  have hi:i<acc.length:=by rw[←hlen];exact(Yu.1 hx).1
  obtain⟨y,h1,h2⟩:=hbl i acc[i] (Ye hi);exact⟨acc[i],y,YW hi,h1,by simpa[QeG,Ye hi] using hr⟩
 have hsize:E.w.heap.size≤E'.w.heap.size:=hb.fr.size
 have hold:∀g,g<E.w.heap.size→(∀b x,b∈acc→E.H b=some x→E.ρ b≠some g)→E'.w.heap[g]?=E.w.heap[g]?:=fun g hg ho=>hb.fr.old g hg fun h=>by
  obtain⟨b,x,h1,h2,h3⟩:=hown0 g h;exact ho b x h1 h2 h3
 have hinU:∀b,E.U b→¬(nm≤b∧b<nm+fresh.length):=fun b hU h=>hnm (b-nm) (by omega) (by rwa[show nm+(b-nm)=b from by omega])
 have haccU:∀b,b∈acc→E.U b∧∃x,E.H b=some x:=fun b hba=>by
  obtain⟨x,h1,_⟩:=hbl _ b (Qd1 hn hba);exact⟨(hH.blk b x h1).1,x,h1⟩
 let E'':Env:=Env.mk E'.w (fun b=>if nm≤b∧b<nm+fresh.length then E'.ρ (acc.length+(b-nm)) else E.ρ b) E'.S
  (fun b=>if nm≤b∧b<nm+fresh.length then (fresh[b-nm]?).map (·.rn back) else if b∈acc then ((upd[idx acc b]?).getD none).map (·.rn back) else E.H b) (fun b=>E.U b∨(nm≤b∧b<nm+fresh.length))
 have hHold:∀i,i<acc.length→E'.H i=(upd[i]?).getD none:=fun i hi=>by rw[hb.H i,Yf (by omega)]
 have hHnew:∀i,E'.H (acc.length+i)=fresh[i]?:=fun i=>by rw[hb.H _,Yb (by omega),hlen,Nat.add_sub_cancel_left]
 have hacc:∀b,b∈acc→∀x,E''.H b=some x→∃y,E'.H (idx acc b)=some y∧x=y.rn back∧E'.ρ (idx acc b)=E.ρ b∧∃z,E.H b=some z∧shape y=shape z:=by
  intro b hba x hx;have hnin:=hinU b (haccU b hba).1;have h1:=Qd1 hn hba;have hi:idx acc b<acc.length:=(Yu.1 h1).1;simp only[E'',hnin,if_false,hba,if_true] at hx;rw[←hHold _ hi] at hx;cases hy:E'.H (idx acc b) with
  |none=>rw[hy] at hx;cases hx
  |some y =>
   rw[hy] at hx;injection hx with hx
   obtain⟨z,hz,hr,hsh,_⟩:=hb.ext.H (idx acc b) y (by show idx acc b<bl.length;omega) hy;obtain⟨z0,h2,h3⟩:=hbl _ b h1;have hz:bl[idx acc b]?=some z:=hz;rw[h3] at hz;injection hz with hz
   subst hz;exact⟨y,rfl,hx.symm,by rw[hr];simp[QeG,h1],z0,h2,by rw[hsh,QcI]⟩
 have hnew:∀b,nm≤b∧b<nm+fresh.length→∀x,E''.H b=some x→∃y,E'.H (acc.length+(b-nm))=some y∧fresh[b-nm]?=some y∧x=y.rn back:=by
  intro b hbn x hx;simp only[E'',hbn,and_self,if_true] at hx;cases hf:fresh[b-nm]? with
  |none=>rw[hf] at hx;cases hx
  |some y=>rw[hf] at hx;injection hx with hx;exact⟨y,by rw[hHnew,hf],rfl,hx.symm⟩
 have hoth:∀b,¬(nm≤b∧b<nm+fresh.length)→b∉acc→∀x,E''.H b=some x→E.H b=some x:=fun b h1 h2 x hx=>by simpa[E'',h1,h2] using hx
 have hothw:∀b x,b∉acc→E.H b=some x→∀g,E.ρ b=some g→E'.w.heap[g]?=E.w.heap[g]?:=fun b x hba hx g hr =>
  hold g (QaU hH hx hr).1 fun c y hc hy hrc=>hba (hH.inj c b y x g hy hx hrc hr ▸ hc)
 have hS:∀g,E.S g→E'.S g∧E'.w.heap[g]?=E.w.heap[g]?:=fun g hg=>hb.ext.S g hg
 have hext:Ext E E'':=by
  refine⟨fun g hg=>hS g hg,fun b h=>.inl h,fun b x' hU hx=>?_⟩;have hnin:=hinU b hU;by_cases hba:b∈acc
  ·obtain⟨y,h1,rfl,h3,z,h4,h5⟩:=hacc b hba x' hx;refine⟨z,h4,by simp[E'',hnin],by rw[QcI,h5],fun g cs el hr hc=>?_⟩;have hi:=Qd1 hn hba;obtain⟨_,_,_,_,hsz⟩:=hb.ext.H (idx acc b) y (by show idx acc b<bl.length;have:=(Yu.1 hi).1;omega) h1;exact hsz g cs el (by simp[QeG,hi,hr]) hc
  ·have hx:=hoth b hnin hba x' hx;exact⟨x',hx,by simp[E'',hnin],rfl,fun g cs el hr hc=>⟨cs,(hothw b x' hba hx g hr).trans hc,rfl⟩⟩
 have hat:∀i,Qxn E' E'' back i:=by
  intro i hU;have hi:i<acc.length+fresh.length:=by have:=(hb.U i).1 hU;omega
  by_cases hia:i<acc.length
  ·have h1:=Ye hia;rw[hback1 i _ h1];have hm:acc[i]∈acc:=YW hia;refine⟨.inl (haccU _ hm).1,fun x hx=>?_⟩;obtain⟨y,h2,rfl,h4,_⟩:=hacc _ hm x hx;rw[QdL hn h1] at h2 h4;exact⟨y,h2,QcI _ _,by simp[E'',hinU _ (haccU _ hm).1,h4]⟩
  ·rw[hback2 i (by omega)];have h1:nm≤nm+(i-acc.length)∧nm+(i-acc.length)<nm+fresh.length:=by omega
   refine⟨.inr h1,fun x hx=>?_⟩;obtain⟨y,h2,h3,rfl⟩:=hnew _ h1 x hx;rw[show acc.length+(nm+(i-acc.length)-nm)=i from by omega] at h2;exact⟨y,h2,QcI _ _,by simp only[E'',h1,and_self,if_true];congr 1;omega⟩
 have hownr:∀i y g,E'.H i=some y→E'.ρ i=some g→E.w.heap.size≤g∨∃b x,b∈acc∧E.H b=some x∧E.ρ b=some g:=fun i y g hy hr=>(hb.fr.own i y g hy hr).imp id (hown0 g)
 refine⟨E'',rfl,⟨hext,⟨fun b x hx=>?_,fun b b' x x' g hx hx' hr hr'=>?_,hb.ok.st⟩,fun b=>?_,fun b=>?_,fun F hF=>⟨hb.fr.os.trans hF.os,hb.fr.tape.trans hF.tape,hb.fr.output.trans hF.output,YG hF.size hsize,fun g hg ho=>?_,fun b x g hx hr=>?_,fun g hg=>?_⟩⟩,?_⟩
 ·by_cases hbn:nm≤b∧b<nm+fresh.length
  ·obtain⟨y,h1,h2,rfl⟩:=hnew b hbn x hx;obtain⟨k1,k2,k3⟩:=hb.ok.blk _ _ h1;have hbk:back (acc.length+(b-nm))=b:=by rw[hback2 _ (by omega)];omega
   have:=Qoq.rn (E:=E') (E':=E'') (f:=back) (i:=acc.length+(b-nm)) rfl (.inl fun _ h=>h) (fun j _=>hat j) (by rw[hbk];simp[E'',hbn]) k2;rw[hbk] at this;exact⟨.inr hbn,this,fun g hg=>k3 g (by simpa[E'',hbn] using hg)⟩
  ·by_cases hba:b∈acc
   ·obtain⟨y,h1,rfl,h3,_⟩:=hacc b hba x hx;obtain⟨k1,k2,k3⟩:=hb.ok.blk _ _ h1;have hbk:back (idx acc b)=b:=hback1 _ _ (Qd1 hn hba);have:=Qoq.rn (E:=E') (E':=E'') (f:=back) (i:=idx acc b) rfl (.inl fun _ h=>h) (fun j _=>hat j) (by rw[hbk];simp[E'',hbn,h3]) k2;rw[hbk] at this;exact⟨.inl (haccU b hba).1,this,fun g hg=>k3 g (by rw[h3];simpa[E'',hbn] using hg)⟩
   ·have hx:=hoth b hbn hba x hx;obtain⟨k1,k2,k3⟩:=hH.blk b x hx;refine⟨.inl k1,k2.ext hext (by simp[E'',hbn]) (fun g hg=>hothw b x hba hx g hg),fun g hg hs=>?_⟩;have hg:E.ρ b=some g:=by simpa[E'',hbn] using hg
    have hlt:=(QaU hH hx hg).1;rcases hb.fr.S g hs with h|h|h
    ·exact k3 g hg h
    ·have h:E.w.heap.size≤g:=h;omega
    ·obtain⟨c,y,hc,hy,hr⟩:=hown0 g h;exact hba (hH.inj c b y x g hy hx hr hg ▸ hc)
 ·
  have cls:∀b x,E''.H b=some x→(∃i y,E'.H i=some y∧E''.ρ b=E'.ρ i∧back i=b)∨(b∉acc∧E.H b=some x∧E''.ρ b=E.ρ b):=by
   intro b x hx;by_cases hbn:nm≤b∧b<nm+fresh.length
   ·obtain⟨y,h1,h2,rfl⟩:=hnew b hbn x hx;exact .inl ⟨_,y,h1,by simp[E'',hbn],by rw[hback2 _ (by omega)];omega⟩
   ·by_cases hba:b∈acc
    ·obtain⟨y,h1,rfl,h3,_⟩:=hacc b hba x hx;exact .inl ⟨_,y,h1,by simp[E'',hbn,h3],hback1 _ _ (Qd1 hn hba)⟩
    ·exact .inr ⟨hba,hoth b hbn hba x hx,by simp[E'',hbn]⟩
  rcases cls b x hx with⟨i,y,h1,h2,h3⟩|⟨h1,h2,h3⟩<;>rcases cls b' x' hx' with⟨i',y',h1',h2',h3'⟩|⟨h1',h2',h3'⟩
  ·rw[h2] at hr;rw[h2'] at hr';have:=hb.ok.inj i i' y y' g h1 h1' hr hr';subst this;rw[←h3,←h3']
  ·rw[h2] at hr;rw[h3'] at hr';have hlt:=(QaU hH h2' hr').1;rcases hownr i y g h1 hr with h|⟨c,z,hc,hz,hrc⟩
   ·omega
   ·exact YD (hH.inj c b' z x' g hz h2' hrc hr' ▸ hc) h1'
  ·rw[h3] at hr;rw[h2'] at hr';have hlt:=(QaU hH h2 hr).1;rcases hownr i' y' g h1' hr' with h|⟨c,z,hc,hz,hrc⟩
   ·omega
   ·exact YD (hH.inj c b z x g hz h2 hrc hr ▸ hc) h1
  ·rw[h3] at hr;rw[h3'] at hr';exact hH.inj b b' x x' g h2 h2' hr hr'
 ·rw[Qj1,QoA acc _ _ hn (by simp[hul])];simp only[Jf];by_cases hbn:nm≤b∧b<nm+fresh.length
  ·simp[E'',hbn]
  ·simp only[E'',hbn,if_false];by_cases hba:b∈acc
   ·simp only[hba,if_true,Jc];cases upd[idx acc b]? with
    |none=>rfl
    |some o=>cases o<;>rfl
   ·simp[hba]
 ·simp[E'']
 ·refine(hold g (Jn hg hF.size) fun b x hba hx hr=>?_).trans (hF.old g hg ho);rcases hF.own b x g hx hr with h|h
  ·omega
  ·exact ho h
 ·have own':∀i y,E'.H i=some y→E'.ρ i=some g→F.w0.heap.size≤g∨F.own0 g:=fun i y hy hry=>by
   rcases hownr i y g hy hry with h|⟨c,z,hc,hz,hrc⟩
   ·exact .inl (YG hF.size h)
   ·exact hF.own c z g hz hrc
  by_cases hbn:nm≤b∧b<nm+fresh.length
  ·obtain⟨y,h1,h2,rfl⟩:=hnew b hbn x hx;exact own' _ y h1 (by simpa[E'',hbn] using hr)
  ·by_cases hba:b∈acc
   ·obtain⟨y,h1,rfl,h3,_⟩:=hacc b hba x hx;exact own' _ y h1 (by rw[h3];simpa[E'',hbn] using hr)
   ·exact hF.own b x g (hoth b hbn hba x hx) (by simpa[E'',hbn] using hr)
 ·rcases hb.fr.S g hg with h|h|h
  ·exact hF.S g h
  ·exact .inr (.inl (YG hF.size h))
  ·obtain⟨c,z,hc,hz,hrc⟩:=hown0 g h;exact .inr (hF.own c z g hz hrc)
 ·exact AVR.rn (E:=E') (E':=E'') rfl (.inl fun _ h=>h) (fun i _=>hat i) hb.val
end
end Go.Fw

