/- Part 10 of the proof. Conditions: none. -/
import Derived.Test.YtofgbclopbmlcaaGreatG8
import Derived.MapKept
import Derived.Laws.BytesString
import Derived.Laws.IdiomStrings
import Derived.WideKeyRuns
import Derived.Lib.SlicesS
namespace Go.Fw
set_option linter.unusedVariables false
set_option linter.unusedSimpArgs false
structure WritesM(E:Env)(g:Nat)(es es':Array MapEntry)(c c':Nat)(w':World):Prop where
 was:E.w.heap[g]?=some (.map es c)
 is:w'.heap[g]?=some (.map es' c')
 oth:∀i,i≠g→w'.heap[i]?=E.w.heap[i]?
 size:w'.heap.size=E.w.heap.size
 os:w'.os=E.w.os
 tape:w'.tape=E.w.tape
 output:w'.output=E.w.output
section
variable {E:Env} {b g:Nat} {ka:Bool} {kt vt:Ty} {l l':List (Den kt×Den vt)} {es es':Array MapEntry} {c c':Nat} {w':World}
theorem Qoo(hH:HeapOk E)(hx:E.H b=some (.mp ka kt vt l))(hr:E.ρ b=some g)(hw:WritesM E g es es' c c' w'):Ext E (Qed E b (.mp ka kt vt l') w'):=by
 have hns:∀i,E.S i→i≠g:=fun i hi e=>(hH.blk b _ hx).2.2 g hr (e ▸ hi)
 refine⟨fun i hi=>⟨hi,hw.oth i (hns i hi)⟩,fun _ h=>h,fun d y hc hy=>?_⟩;by_cases h:d=b
 ·subst h;simp only[Qed,if_true,Option.some.injEq] at hy;subst hy;refine⟨_,hx,rfl,rfl,fun g' cs0 el0 hr' hc0=>?_⟩;rw[hr] at hr';injection hr' with hr';subst hr'
  rw[hw.was] at hc0;cases hc0
 ·simp only[Qed,h,if_false] at hy;refine⟨y,hy,rfl,rfl,fun g' cs0 el0 hr' hc0=>⟨cs0,?_,rfl⟩⟩;have:g'≠g:=fun e=>h (hH.inj d b y _ g hy hx (e ▸ hr') hr)
  exact(hw.oth g' this).trans hc0
theorem QBu(hH:HeapOk E)(hx:E.H b=some (.mp ka kt vt l))(hr:E.ρ b=some g)(hw:WritesM E g es es' c c' w')(hb:QmS ka kt vt l' es'.toList):HeapOk (Qed E b (.mp ka kt vt l') w'):=by
 have hext:=Qoo (l':=l') hH hx hr hw
 have hlive:∀d y,(Qed E b (.mp ka kt vt l') w').H d=some y→∃y0,E.H d=some y0:=by
  intro d y hy;by_cases h:d=b
  ·exact⟨_,h ▸ hx⟩
  ·exact⟨y,by simpa[Qed,h] using hy⟩
 refine⟨fun d y hy=>?_,fun d d' y y' i hy hy' hr1 hr2=>?_,fun i hi=>?_⟩
 ·by_cases h:d=b
  ·subst h;simp only[Qed,if_true,Option.some.injEq] at hy;subst hy;obtain⟨h1,h2,h3⟩:=hH.blk d _ hx;exact⟨h1,⟨g,es',c',hr,hw.is,hb⟩,h3⟩
  ·simp only[Qed,h,if_false] at hy;obtain⟨h1,h2,h3⟩:=hH.blk d y hy;exact⟨h1,h2.ext hext rfl (fun g' hg'=>hw.oth g' fun e=>h (hH.inj d b y _ g hy hx (e ▸ hg') hr)),h3⟩
 ·obtain⟨y0,h0⟩:=hlive d y hy;obtain⟨y1,h1⟩:=hlive d' y' hy';exact hH.inj d d' y0 y1 i h0 h1 hr1 hr2
 ·rw[show(Qed E b (.mp ka kt vt l') w').w=w' from rfl,hw.size];exact hH.st i hi
theorem Step.setM{r:Res}{nm:Nat}(hH:HeapOk E)(hr1:r.add=[])(hr2:r.set=[(b,some (.mp ka kt vt l'))])(hx:E.H b=some (.mp ka kt vt l))(hr:E.ρ b=some g)(hw:WritesM E g es es' c c' w')(hb:QmS ka kt vt l' es'.toList) :
 Step E r nm (Qed E b (.mp ka kt vt l') w'):=by
 refine⟨Qoo hH hx hr hw,QBu hH hx hr hw hb,fun d=>?_,fun d=>?_,fun F h=>⟨hw.os.trans h.os,hw.tape.trans h.tape,hw.output.trans h.output,?_,fun i hi ho=>?_,fun d y i hy hr'=>?_,h.S⟩⟩
 ·rw[hr1,hr2];rfl
 ·rw[hr1];simp[Qed];omega
 ·rw[show(Qed E b (.mp ka kt vt l') w').w=w' from rfl,hw.size];exact h.size
 ·have:i≠g:=by
   rintro rfl
   rcases h.own b _ i hx hr with e|e
   ·omega
   ·exact ho e
  exact(hw.oth i this).trans (h.old i hi ho)
 ·by_cases hc:d=b
  ·subst hc;exact h.own d _ i hx hr'
  ·exact h.own d y i (by simpa[Qed,hc] using hy) hr'
theorem Step.newM{r:Res}{nm:Nat}{cl:Nat}(hH:HeapOk E)(hr1:r.add=[.mp ka kt vt []])(hr2:r.set=[])(hnm:¬E.U nm)
 (hw:w'.heap=E.w.heap.push (.map #[] cl)) (h1:w'.os=E.w.os) (h2:w'.tape=E.w.tape) (h3:w'.output=E.w.output):Step E r nm (QbN E nm (.mp ka kt vt []) w'):=by
 have hext:=QjH hH hnm (blk:=.mp ka kt vt []) hw;refine⟨hext,⟨fun d y hy=>?_,fun d d' y y' i hy hy' e1 e2=>?_,fun i hi=>?_⟩,fun d=>?_,fun d=>?_,fun F hF=>Qsk hH hw h1 h2 h3 hF⟩
 ·by_cases h:d=nm
  ·subst h;simp only[QbN,if_true,Option.some.injEq] at hy;subst hy;refine⟨.inr rfl,⟨_,#[],cl,by simp[QbN],QgQ hw,trivial⟩,fun g hg hs=>?_⟩;simp only[QbN,if_true,Option.some.injEq] at hg;have:=hH.st g hs;omega
  ·simp only[QbN,h,if_false] at hy;obtain⟨k1,k2,k3⟩:=hH.blk d y hy;exact⟨.inl k1,k2.ext hext (by simp[QbN,h]) (fun g hg=>Qcb hw (QaR hH hy hg).1),fun g hg=>k3 g (by simpa[QbN,h] using hg)⟩
 ·by_cases h:d=nm<;>by_cases h':d'=nm
  ·rw[h,h']
  ·simp only[QbN,h,h',if_true,if_false,Option.some.injEq] at hy hy' e1 e2;have:=(QaR hH hy' e2).1;omega
  ·simp only[QbN,h,h',if_true,if_false,Option.some.injEq] at hy hy' e1 e2;have:=(QaR hH hy e1).1;omega
  ·simp only[QbN,h,h',if_false] at hy hy' e1 e2;exact hH.inj d d' y y' i hy hy' e1 e2
 ·rw[show(QbN E nm (.mp ka kt vt []) w').w=w' from rfl,hw];have:=hH.st i hi;simp;omega
 ·rw[hr1,hr2];simp only[addF,QbN,Qf5]
 ·rw[hr1];simp only[QbN,List.length_singleton];constructor
  ·rintro (h|h)
   ·exact .inl h
   ·exact .inr (by omega)
  ·rintro (h|h)
   ·exact .inl h
   ·exact .inr (by omega)
end
section
variable {P:Program} {T:Tab}
theorem Qbt:∀{u:Ty},QaC u=true→u.flat=true
 |.int _,_=>rfl
 |.ints _ _,h=>by cases h
 |.bool,_=>rfl
 |.str,_=>rfl
 |.sl _,h=>by cases h
 |.pair a b,h=>by
  simp only[QaC,Bool.and_eq_true] at h;simp only[Ty.flat,Bool.and_eq_true];exact⟨Qbt h.1,Qbt h.2⟩
theorem Qdp:∀{u:Ty} {x y:Den u},u.flat=true→QA u x y=true→x=y
 |.int _,x,y,_,h=>of_decide_eq_true h
 |.ints _ _,x,y,_,h=>of_decide_eq_true h
 |.bool,x,y,_,h=>by
  have h:((x:Bool)==y)=true:=h;exact eq_of_beq h
 |.str,x,y,_,h=>(Lib.bytes_beq_iff x y).1 h
 |.sl _,_,_,h,_=>by cases h
 |.pair a b,x,y,h,he=>by
  simp only[Ty.flat,Bool.and_eq_true] at h;simp only[QA,Bool.and_eq_true] at he;exact Prod.ext (Qdp h.1 he.1) (Qdp h.2 he.2)
theorem CR.uniq{w:World}{S:Nat→Prop}:∀{u:Ty} {x:Den u} {vs us:List Value},u.flat=true→CR w S u x vs→CR w S u x us→vs=us
 |.int _,_,_,_,_,h,h'=>by rw[show _=_ from h,show _=_ from h']
 |.ints _ _,_,_,_,_,h,h'=>by rw[h.2,h'.2]
 |.bool,_,_,_,_,h,h'=>by rw[show _=_ from h,show _=_ from h']
 |.str,_,_,_,_,h,h'=>by rw[show _=_ from h,show _=_ from h']
 |.sl _,_,_,_,h,_,_=>by cases h
 |.pair a b,_,_,_,hf,⟨r,s,e,h1,h2⟩,⟨r',s',e',h1',h2'⟩=>by
  simp only[Ty.flat,Bool.and_eq_true] at hf;rw[e,e',h1.uniq hf.1 h1',h2.uniq hf.2 h2']
theorem QqD(s:ByteArray):(s==s)=true:=(MapKept.bytes_beq s s).2 rfl
theorem Qby{w:World}{S:Nat→Prop}(n:Nat):∀{u:Ty} {x:Den u} {vs:List Value},QaC u=true→CR w S u x vs→∀v∈vs,Instr.sameBits n v v=true
 |.int _,_,_,_,h=>by intro v hv;rw[show _=_ from h] at hv;simp at hv;subst hv;simp[Instr.sameBits]
 |.ints _ _,_,_,hf,_=>by cases hf
 |.bool,_,_,_,h=>by intro v hv;rw[show _=_ from h] at hv;simp at hv;subst hv;simp[Instr.sameBits]
 |.str,_,_,_,h=>by intro v hv;rw[show _=_ from h] at hv;simp at hv;subst hv;simp[Instr.sameBits,QqD]
 |.sl _,_,_,hf,_=>by cases hf
 |.pair a b,_,_,hf,⟨r,s,e,h1,h2⟩=>by
  simp only[QaC,Bool.and_eq_true] at hf;intro v hv;subst e;rcases List.mem_append.1 hv with hv|hv
  ·exact Qby n hf.1 h1 v hv
  ·exact Qby n hf.2 h2 v hv
theorem Qlg{ka:Bool}{kt:Ty}{d:Den kt}{v:Value}(hf:QaC kt=true)(h:KV ka kt d v):Instr.sameBits 10000 v v=true:=by
 obtain⟨vs,hc,h⟩:=h;have hc:=hc default fun _=>True
 rcases h with⟨_,rfl⟩|⟨_,rfl⟩
 ·have:=Qby 9999 hf hc;simp only[Instr.sameBits,beq_self_eq_true,Bool.true_and,List.all_eq_true];intro p hp
  have:p.1=p.2∧p.1∈vs:=by
   have hz:∀(l:List Value) (p:Value×Value),p∈l.zip l→p.1=p.2∧p.1∈l:=by
    intro l
    induction l with
    |nil=>intro p hp;simp at hp
    |cons a l ih =>
     intro p hp;simp only[List.zip_cons_cons,List.mem_cons] at hp;rcases hp with rfl|hp
     ·exact⟨rfl,by simp⟩
     ·obtain⟨e1,e2⟩:=ih p hp;exact⟨e1,List.mem_cons_of_mem _ e2⟩
   exact hz vs p hp
  rw[←this.1];exact Qby 9999 hf hc p.1 this.2
 ·exact Qby 10000 hf hc v (by simp)
theorem Qw1{ka:Bool}{kt:Ty}{d:Den kt}{v v':Value}(hf:QaC kt=true)(h:KV ka kt d v)(h':KV ka kt d v'):v=v':=by
 obtain⟨vs,hc,h⟩:=h;obtain⟨us,hd,h'⟩:=h';have:=(hc default fun _=>True).uniq (Qbt hf) (hd default fun _=>True);subst this;rcases h with⟨h1,rfl⟩|⟨h1,h2⟩<;>rcases h' with⟨h1',rfl⟩|⟨h1',h2'⟩
 ·rfl
 ·rw[h1] at h1';cases h1'
 ·rw[h1] at h1';cases h1'
 ·rw[h2] at h2';injection h2'
def Qlh(P:Program)(k:TypeId)(ka:Bool)(kt:Ty):Prop :=
 (ka=false∧Qad P k=false∧((∃i,kt=.int i∧P.underlying k=some (.int i))∨(kt=.bool∧P.underlying k=some .bool)∨(kt=.str∧P.underlying k=some .string))) ∨
 (ka=true∧Qad P k=true∧(∃F,P.underlying k=some (.struct F))∧P.keyTypeAt 30 k=true∧Qbe P 30 kt k=true)
theorem Qgz{n m d:Nat}(em:Bool)(IH:∀(u:Ty) (t:TypeId),Qbe P n u t=true→P.keyTypeAt m t=true→QaC u=true→∀(w w0:World) (S:Nat→Prop) (x:Value) (vs:List Value) (dx:Den u),Form P t x vs→CR w0 S u dx vs→(Instr.checkKey em d t x).run P w=.ok () w)
 {xs:Array Value} {w w0:World} {S:Nat→Prop}:∀(fs:List Field) (u:Ty) (off:Nat) (px vs:List Value) (dx:Den u),QeC P (Qbe P n) u fs off=true→QaC u=true→(∀f∈fs,f.name≠ "_"∧P.keyTypeAt m f.type=true) →
 xs.toList=px++vs→px.length=off→CR w0 S u dx vs→(forIn fs PUnit.unit fun(f:Field) (r:PUnit)=>do
  if f.name≠ "_" then
   let v ←part f.type xs f.offset
   Instr.checkKey em d f.type v
   pure (ForInStep.yield PUnit.unit)
  else pure (ForInStep.yield PUnit.unit)).run P w=.ok PUnit.unit w
 | [],u,_,_,_,_,h,_,_,_,_,_=>by simp[QeC] at h
 | [f],u,off,px,vs,dx,h,hk,hn,hx,hpx,cx=>by
   simp only[QeC,Bool.and_eq_true] at h;obtain⟨⟨h1,h2⟩,h3⟩:=h;have h2:=Nat.eq_of_beq_eq_true h2;have h3:=Nat.eq_of_beq_eq_true h3;obtain⟨hn1,hk1⟩:=hn f (by simp);obtain⟨D,i,hu,hi⟩:=QgR hk1;obtain⟨a,ha,fa⟩:=Qc2 hi hu (xs:=xs) (pre:=px) (r:=vs) (s:=[]) (by simp[hx]) (by rw[cx.len,h3]) (fun hg=>by rw[cx.len];exact Qeg h1 hg) w;have he:=IH u f.type h1 hk1 hk w w0 S a vs dx fa cx;rw[hpx,←h2] at ha;simp only[List.forIn_cons,List.forIn_nil,Sem.run_bind,hn1,ne_eq,not_false_eq_true,if_true,Result.andThen_ok,ha,he,Sem.run_pure]
 |f::g::fs,u,off,px,vs,dx,h,hk,hn,hx,hpx,cx=>by
  cases u with
  |pair p q =>
   simp only[QeC,Bool.and_eq_true] at h;obtain⟨⟨⟨h1,h2⟩,h3⟩,h4⟩:=h;have h2:=Nat.eq_of_beq_eq_true h2;have h3:=Nat.eq_of_beq_eq_true h3;simp only[QaC,Bool.and_eq_true] at hk;obtain⟨hn1,hk1⟩:=hn f (by simp);obtain⟨D,i,hu,hi⟩:=QgR hk1;obtain⟨r,s,rfl,cx1,cx2⟩:=cx;obtain⟨a,ha,fa⟩:=Qc2 hi hu (xs:=xs) (pre:=px) (r:=r) (s:=s) (by simp[hx]) (by rw[cx1.len,h3]) (fun hg=>by rw[cx1.len];exact Qeg h1 hg) w;have he:=IH p f.type h1 hk1 hk.1 w w0 S a r dx.1 fa cx1;have rest:=Qgz em IH (xs:=xs) (w:=w) (g::fs) q (off+p.size) (px++r) s dx.2 h4 hk.2 (fun f' hf'=>hn f' (List.mem_cons_of_mem _ hf')) (by simp[hx]) (by simp[hpx,cx1.len]) cx2;rw[hpx,←h2] at ha;rw[List.forIn_cons];simp only[Sem.run_bind,hn1,ne_eq,not_false_eq_true,if_true,Result.andThen_ok,ha,he,Sem.run_pure];exact rest
  |_=>simp[QeC] at h
theorem Qli(em:Bool):∀(n m:Nat) (u:Ty) (t:TypeId),Qbe P n u t=true→P.keyTypeAt m t=true→QaC u=true→∀(d:Nat),n+1≤d→∀(w w0:World) (S:Nat→Prop) (x:Value) (vs:List Value) (dx:Den u),Form P t x vs→CR w0 S u dx vs →
 (Instr.checkKey em d t x).run P w=.ok () w
 |0,_,u,t,h,_,_=>by simp[Qbe] at h
 |n+1,0,u,t,_,h,_=>by simp[Program.keyTypeAt] at h
 |n+1,m+1,u,t,h,hk,hf=>by
  intro d hd w w0 S x vs dx fx cx;obtain⟨d,rfl⟩:∃d',d=d'+1:=⟨d-1,by omega⟩
  unfold Qbe at h;split at h
  ·rename_i hu;have hg:Qad P t=false:=by simp[Qad,hu]
   simp only[CR] at cx;subst cx;rcases fx with⟨_,h'⟩|⟨fx,_⟩
   ·rw[hg] at h';cases h'
   injection fx with fx _
   subst fx;simp[Instr.checkKey,run_underlying hu]
  ·rename_i hu;have hg:Qad P t=false:=by simp[Qad,hu]
   simp only[CR] at cx;subst cx;rcases fx with⟨_,h'⟩|⟨fx,_⟩
   ·rw[hg] at h';cases h'
   injection fx with fx _
   subst fx;simp[Instr.checkKey,run_underlying hu]
  ·rename_i hu;have hg:Qad P t=false:=by simp[Qad,hu]
   simp only[CR] at cx;subst cx;rcases fx with⟨_,h'⟩|⟨fx,_⟩
   ·rw[hg] at h';cases h'
   injection fx with fx _
   subst fx;simp[Instr.checkKey,run_underlying hu]
  ·cases hf
  ·rename_i F hu;have hg:Qad P t=true:=by simp[Qad,hu]
   rcases fx with⟨rfl,_⟩|⟨_,h'⟩
   ·simp only[Bool.and_eq_true] at h;unfold Program.keyTypeAt at hk;simp only[hu,Bool.and_eq_true,Bool.not_eq_true',Array.all_eq_true'] at hk;obtain⟨⟨hall,_⟩,hst⟩:=hk;rw[Instr.checkKey];simp only[Sem.run_bind,run_underlying hu,Result.andThen_ok];rw[←Array.forIn_toList]
    have:=Qgz em (n:=n) (m:=m) (d:=d) (fun u t h1 h2 h3=>Qli em n m u t h1 h2 h3 d (by omega)) (xs:=vs.toArray) (w:=w) F.toList _ 0 [] vs dx h.1 hf (fun f hf=>by
     have:=hall f (by simpa using hf)
     simpa using this) (by simp) rfl cx
    simp at this ⊢;rw[this];rfl
   ·rw[hg] at h';cases h'
  ·cases hf
  ·cases h
theorem Qhm{k:TypeId}{kt:Ty}(hk:Qlh P k false kt){d d':Den kt}{v v':Value}(h:KV false kt d v)(h':KV false kt d' v'):∃D,P.underlying k=some D∧Instr.sameNow D v v'=some (QA kt d d')∧(∀em n w,(Instr.checkKey em (n+1) k v).run P w=.ok () w):=by
 obtain⟨vs,hc,h⟩:=h;obtain⟨us,hd,h'⟩:=h';have hc:=hc default fun _=>True
 have hd:=hd default fun _=>True
 rcases h with⟨h1,_⟩|⟨_,rfl⟩
 ·cases h1
 rcases h' with⟨h1,_⟩|⟨_,rfl⟩
 ·cases h1
 rcases hk with⟨_,_,hk⟩|⟨hk,_⟩
 ·rcases hk with⟨i,rfl,hu⟩|⟨rfl,hu⟩|⟨rfl,hu⟩
  ·simp only[CR] at hc hd;injection hc with hc _;injection hd with hd _
   subst hc;subst hd;exact⟨_,hu,by simp[Instr.sameNow,QA];rfl,fun em n w=>by simp[Instr.checkKey,run_underlying hu]⟩
  ·simp only[CR] at hc hd;injection hc with hc _;injection hd with hd _
   subst hc;subst hd;exact⟨_,hu,by simp[Instr.sameNow,QA],fun em n w=>by simp[Instr.checkKey,run_underlying hu]⟩
  ·simp only[CR] at hc hd;injection hc with hc _;injection hd with hd _
   subst hc;subst hd;refine⟨_,hu,?_,fun em n w=>by simp[Instr.checkKey,run_underlying hu]⟩;simp only[Instr.sameNow,QA,Option.some.injEq,Qm];rw[Bool.eq_iff_iff,MapKept.bytes_beq,Lib.bytes_beq_iff]
 ·cases hk
theorem QmS.at_{ka:Bool}{kt vt:Ty}:∀{l:List (Den kt×Den vt)} {es:List MapEntry},QmS ka kt vt l es→l.length=es.length
 | [],[],_=>rfl
 |_::_,_::_,⟨_,_,h⟩=>by simp[h.at_]
 | [],_::_,h=>h.elim
 |_::_,[],h=>h.elim
theorem QmS.push{ka:Bool}{kt vt:Ty}{k:Den kt}{v:Den vt}{e:MapEntry}(hk:KV ka kt k e.key)(hv:∀w S,CR w S vt v [e.val]):∀{l:List (Den kt×Den vt)} {es:List MapEntry},QmS ka kt vt l es→QmS ka kt vt (l++[(k,v)]) (es++[e])
 | [],[],_=>⟨hk,hv,trivial⟩
 |_::_,_::_,⟨h1,h2,h⟩=>⟨h1,h2,h.push hk hv⟩
 | [],_::_,h=>h.elim
 |_::_,[],h=>h.elim
inductive Found(ka:Bool)(kt vt:Ty)(l:List (Den kt×Den vt))(es:List MapEntry)(d:Den kt)(kv:Value)(i:Nat):Option (Nat×Value)→Prop where
 |none:Qag l d=Option.none→(∀v,Qaq l d v=l++[(d,v)])→Found ka kt vt l es d kv i Option.none
 |some (j:Nat) (e:MapEntry) (v0:Den vt):es[j]?=Option.some e→e.key=kv→Qag l d=Option.some v0→(∀w S,CR w S vt v0 [e.val]) →
   (∀v e',e'.key=kv→(∀w S,CR w S vt v [e'.val])→QmS ka kt vt (Qaq l d v) (es.set j e'))→Found ka kt vt l es d kv i (Option.some (i+j,e.val))
theorem Found.cons{ka:Bool}{kt vt:Ty}{p:Den kt×Den vt}{l:List (Den kt×Den vt)}{e0:MapEntry}{es:List MapEntry}{d:Den kt}{kv:Value}{i:Nat}{r:Option (Nat×Value)}(hne:QA kt d p.1=false)(h0:KV ka kt p.1 e0.key)(h1:∀w S,CR w S vt p.2 [e0.val])
 (h:Found ka kt vt l es d kv (i+1) r):Found ka kt vt (p::l) (e0::es) d kv i r:=by
 cases h with
 |none g1 g2=>exact .none (by simp only[Qag,hne,g1]) (fun v=>by simp only[Qaq,hne,g2,List.cons_append])
 |some j e v0 g1 g2 g3 g4 g5 =>
  have e1:i+1+j=i+(j+1):=by omega
  rw[e1]
  exact .some (j+1) e v0 (by simpa using g1) g2 (by simp only[Qag,hne,g3]) g4 (fun v e' k1 k2=>by
   simp only[Qaq,hne,List.set_cons_succ]
   exact⟨h0,h1,g5 v e' k1 k2⟩)
theorem Found.here{ka:Bool}{kt vt:Ty}{p:Den kt×Den vt}{l:List (Den kt×Den vt)}{e0:MapEntry}{es:List MapEntry}{d:Den kt}{kv:Value}{i:Nat}(hf:QaC kt=true)(hd:KV ka kt d kv)(he:QA kt d p.1=true)(h0:KV ka kt p.1 e0.key)(h1:∀w S,CR w S vt p.2 [e0.val])
 (hr:QmS ka kt vt l es):Found ka kt vt (p::l) (e0::es) d kv i (Option.some (i,e0.val)):=by
 have e:=Qdp (Qbt hf) he
 have:=Found.some (ka:=ka) (l:=p::l) (es:=e0::es) (d:=d) (kv:=kv) (i:=i) 0 e0 p.2 rfl (Qw1 hf (e ▸ h0) hd) (by simp only[Qag,he]) h1 (fun v e' k1 k2=>by
  simp only[Qaq,he,List.set_cons_zero]
  exact⟨k1 ▸ hd,k2,hr⟩)
 simpa using this
theorem Qop{k:TypeId}{kt vt:Ty}(hk:Qlh P k false kt)(hf:QaC kt=true){d:Den kt}{kv:Value}(hd:KV false kt d kv){D:TypeDesc}(hD:P.underlying k=some D):∀(l:List (Den kt×Den vt)) (es:List MapEntry) (i:Nat),QmS false kt vt l es →
 ∃r,Instr.findNow D kv es i=some r∧Found false kt vt l es d kv i r
 | [],[],i,_=>⟨none,rfl,.none rfl fun v=>rfl⟩
 |p::l,e::es,i,⟨h0,h1,h2⟩=>by
  obtain⟨D',hu,hs,_⟩:=Qhm hk hd h0;rw[hD] at hu;injection hu with hu
  subst hu;unfold Instr.findNow;rw[hs];cases hb:QA kt d p.1 with
  |true=>exact⟨_,rfl,Found.here hf hd hb h0 h1 h2⟩
  |false =>
   obtain⟨r,g1,g2⟩:=Qop hk hf hd hD l es (i+1) h2;exact⟨r,g1,g2.cons hb h0 h1⟩
 | [],_::_,_,h=>h.elim
 |_::_,[],_,h=>h.elim
theorem QmZ{k:TypeId}{kt:Ty}(hg:Qad P k=true){d:Den kt}{v:Value}(h:KV true kt d v):∃vs,Form P k v vs∧∀w S,CR w S kt d vs:=by
 obtain⟨vs,hc,h⟩:=h;rcases h with⟨_,rfl⟩|⟨h,_⟩
 ·exact⟨vs,.inl ⟨rfl,hg⟩,hc⟩
 ·cases h
theorem Qhn{k:TypeId}{kt vt:Ty}(hk:Qlh P k true kt)(hf:QaC kt=true){d:Den kt}{kv:Value}(hd:KV true kt d kv){w:World}:∀(l:List (Den kt×Den vt)) (es:List MapEntry) (i:Nat),QmS true kt vt l es →
 ∃r,(Instr.findAsking k kv es i).run P w=.ok r w∧Found true kt vt l es d kv i r
 | [],[],i,_=>⟨none,by simp[Instr.findAsking],.none rfl fun v=>rfl⟩
 |p::l,e::es,i,⟨h0,h1,h2⟩=>by
  rcases hk with⟨hk,_⟩|⟨_,hg,hF,hkt,hty⟩
  ·cases hk
  obtain⟨vs,f1,c1⟩:=QmZ hg hd;obtain⟨us,f2,c2⟩:=QmZ hg h0;have heq:(Op.equal k kv e.key).run P w=.ok (QA kt d p.1) w:=Qss 30 30 kt k hty hkt 10000 (by omega) w w (fun _=>True) kv e.key vs us d p.1 f1 f2 (c1 _ _) (c2 _ _);unfold Instr.findAsking;simp only[Sem.run_bind,heq,Result.andThen_ok];cases hb:QA kt d p.1 with
  |true=>exact⟨_,by simp,Found.here hf hd hb h0 h1 h2⟩
  |false =>
   obtain⟨r,g1,g2⟩:=Qhn (.inr ⟨rfl,hg,hF,hkt,hty⟩) hf hd l es (i+1) h2;exact⟨r,by simpa using g1,g2.cons hb h0 h1⟩
 | [],_::_,_,h=>h.elim
 |_::_,[],_,h=>h.elim
theorem Qoq{k:TypeId}{ka:Bool}{kt vt:Ty}(hk:Qlh P k ka kt)(hf:QaC kt=true){d:Den kt}{kv:Value}(hd:KV ka kt d kv)(w:World){l:List (Den kt×Den vt)}{es:List MapEntry}(h:QmS ka kt vt l es) :
 (∃r,(Instr.findKey k kv es).run P w=.ok r w∧Found ka kt vt l es d kv 0 r)∧∀em,(Instr.checkKey em 10000 k kv).run P w=.ok () w:=by
 cases ka with
 |false =>
  have hu:∃D,P.underlying k=some D:=by
   rcases hk with⟨_,_,hk⟩|⟨hk,_⟩
   ·rcases hk with⟨i,_,hu⟩|⟨_,hu⟩|⟨_,hu⟩<;>exact⟨_,hu⟩
   ·cases hk
  obtain⟨D,hu⟩:=hu;obtain⟨r,h1,h2⟩:=Qop hk hf hd hu l es 0 h;obtain⟨_,_,_,h3⟩:=Qhm hk hd hd;exact⟨⟨r,MapKept.run_findKey hu h1,h2⟩,fun em=>h3 em 9999 w⟩
 |true =>
  obtain⟨r,h1,h2⟩:=Qhn hk hf hd (w:=w) l es 0 h;rcases hk with⟨hk,_⟩|⟨_,hg,⟨F,hF⟩,hkt,hty⟩
  ·cases hk
  obtain⟨vs,f1,c1⟩:=QmZ hg hd;refine⟨⟨r,?_,h2⟩,fun em=>Qli em 30 30 kt k hty hkt hf 10000 (by omega) w w (fun _=>True) kv vs d f1 (c1 _ _)⟩;rw[run_findKey_eq w (by rw[hF])];exact h1
theorem Qf7{E:Env}(hH:HeapOk E){ka:Bool}{kt:Ty}(hf:QaC kt=true){x:AV}{v:Value}{d:Den kt}(hx:AVR E x v)(h:QiX ka kt x=some d):KV ka kt d v:=by
 unfold QiX at h;split at h
 ·rename_i c;split at h
  ·rename_i d' us hd;injection h with h
   subst h;have:CR E.w (SU E us) kt d' [v]:=QbF hH (fun b x hx=>by cases hx) hd (show IR E [c] [v] from⟨[v],[],rfl,hx,rfl⟩);exact⟨[v],fun w S=>this.flat (Qbt hf),.inr ⟨rfl,rfl⟩⟩
  ·cases h
 ·rename_i cs;split at h
  ·rename_i d' us hd;injection h with h
   subst h;obtain⟨vals,rfl,hi⟩:=hx;have:=QbF hH (fun b x hx=>by cases hx) hd hi;exact⟨vals.toList,fun w S=>this.flat (Qbt hf),.inl ⟨rfl,by simp⟩⟩
  ·cases h
 ·cases h
theorem Qm0{t:Ty}(h:QgP t=true):QaC t=true:=by cases t<;>first|rfl|cases h
theorem QqE{E:Env}(hH:HeapOk E){vt:Ty}(hf:QgP vt=true){x:AV}{v:Value}{d:Den vt}(hx:AVR E x v)(h:QiX false vt x=some d):∀w S,CR w S vt d [v]:=by
 obtain⟨vs,hc,h⟩:=Qf7 hH (Qm0 hf) hx h;rcases h with⟨h,_⟩|⟨_,rfl⟩
 ·cases h
 ·exact hc
theorem TyOk.zeroN{t:TypeId}{ti:TI}(h:TyOk P t ti):∃z,(∀w,(zeroValue t).run P w=.ok z w)∧(∀E:Env,IR E ti.zero z.cells.toList)∧z.cells.size=ti.size ∧
 (∀u,ti.ety=some u→u.size=ti.size∧∀w S,CR w S u (dflt u) z.cells.toList)∧(ti.isAgg=false→z.cells.toList=[z]):=by
 obtain⟨i,z,h1,h2,h3,h4,h5,h6,h7⟩:=h.inf;exact⟨z,fun w=>by simp[zeroValue,typeInfo,h1,h4],h5,h6,h7,fun hg=>h.nag hg i z h1 h4⟩
theorem Qsv(hT:TabOk P T){t:TypeId}{ka:Bool}{kt vt:Ty}(h:Qn8 T t ka kt vt=true):∃k e,P.underlying t=some (.map k e)∧Qlh P k ka kt∧QaC kt=true∧QgP vt=true ∧
 ∃z,(∀w,(zeroValue e).run P w=.ok z w)∧∀w S,CR w S vt (dflt vt) [z]:=by
 unfold Qn8 at h;split at h
 ·rename_i ka' kt' vt' hm;simp only[Bool.and_eq_true,decide_eq_true_eq] at h;obtain⟨⟨rfl,rfl⟩,rfl⟩:=h;unfold QmP at hm;split at hm
  ·rename_i k e _ _ _ _ _ ht;have hu:=(hT.ty t _ ht).und;simp only[QW] at hu;split at hm
   ·rename_i ki ei hki hei;split at hm
    ·rename_i kt vt hkt hvt;split at hm
     ·rename_i hc;injection hm with hm
      injection hm with e1 e2
      injection e2 with e2 e3
      subst e1;subst e2;subst e3;simp only[Bool.and_eq_true,Bool.not_eq_true'] at hc;obtain⟨⟨⟨c1,c2⟩,c3⟩,c4⟩:=hc;refine⟨k,e,hu,?_,c2,c3,?_⟩
      ·have hkok:=hT.ty k _ hki;have hd:=hkok.und;unfold QEe at c1;split at c1
       ·rename_i i i' hdk;simp only[decide_eq_true_eq] at c1;subst c1;rw[hdk] at hd;simp only[QW] at hd;exact .inl ⟨by unfold TI.isAgg;rw[hdk],by simp[Qad,hd],.inl ⟨_,rfl,hd⟩⟩
       ·rename_i hdk;rw[hdk] at hd;simp only[QW] at hd;exact .inl ⟨by unfold TI.isAgg;rw[hdk],by simp[Qad,hd],.inr (.inl ⟨rfl,hd⟩)⟩
       ·rename_i hdk;rw[hdk] at hd;simp only[QW] at hd;exact .inl ⟨by unfold TI.isAgg;rw[hdk],by simp[Qad,hd],.inr (.inr ⟨rfl,hd⟩)⟩
       ·rename_i hdk;have hcmp:=hkok.cmp c1;rw[hkt] at hcmp;simp only[QwS,Bool.and_eq_true,Bool.not_eq_true'] at hcmp;obtain⟨⟨⟨g1,g2⟩,g3⟩,_⟩:=hcmp;rw[hdk] at hd;simp only[QW] at hd;obtain⟨F,hF,_⟩:=hd;exact .inr ⟨by unfold TI.isAgg;rw[hdk],g1,⟨F,hF⟩,g2,g3⟩
       ·cases c1
      ·have heok:=hT.ty e _ hei;obtain⟨z,z1,_,z3,z4,z5⟩:=heok.zeroN;obtain⟨hsz,hcr⟩:=z4 _ hvt;refine⟨z,z1,fun w S=>?_⟩;have:=hcr w S;have hz:z.cells.toList=[z]:=z5 c4;rwa[hz] at this
     ·cases hm
    ·cases hm
   ·cases hm
  ·cases hm
 ·cases h
theorem Qm1{E:Env}(hH:HeapOk E){t:TypeId}{ka:Bool}{kt vt:Ty}{nm:Nat}(hnm:¬E.U nm):∃E',(Instr.makeMap t none).run P E.w=.ok (.map (some E.w.heap.size)) E'.w ∧
 Step E { pre:=none,val:=.cell (.map nm),add:=[.mp ka kt vt []],set:=[] } nm E'∧AVR E' (.cell (.map nm)) (.map (some E.w.heap.size)):=by
 refine⟨QbN E nm (.mp ka kt vt []) (E.w.alloc (.map #[] 0)),rfl,Step.newM (cl:=0) hH rfl rfl hnm rfl rfl rfl rfl,?_⟩;refine⟨_,⟨rfl,rfl⟩,.inr rfl,fun ka' kt' vt' l' _=>⟨E.w.heap.size,?_,rfl⟩⟩;show(if nm=nm then some E.w.heap.size else E.ρ nm)=_;rw[if_pos rfl]
theorem Qi4{E:Env}{look:Nat→Option Blk}(hT:TabOk P T)(hH:HeapOk E)(hl:∀b x,look b=some x→E.H b=some x){t:TypeId}{m k x:AV}{vm vk vx:Value}{r:Res}{nm:Nat}(hm:AVR E m vm)(hk:AVR E k vk)(hx:AVR E x vx)(h:QjB T look t m k x=some r) :
 ∃E',(Instr.mapUpdate t vm vk vx).run P E.w=.ok () E'.w∧Step E r nm E'∧r.val=.dead:=by
 unfold QjB at h;split at h
 ·rename_i b;split at h
  ·rename_i ka kt vt l hb;split at h
   ·rename_i hi;split at h
    ·rename_i d v hd hv;injection h with h
     subst h;obtain⟨key,elem,hu,hfit,hflat,hsc,_⟩:=Qsv hT hi;have hbx:=hl _ _ hb;obtain⟨v0,⟨e,_⟩,_,hh⟩:=hm;injection e with e
     subst e;obtain⟨g,hr,rfl⟩:=hh _ _ _ _ hbx;obtain⟨_,⟨g',es,c,h1,h2,h3⟩,_⟩:=hH.blk _ _ hbx;rw[hr] at h1;injection h1 with h1
     subst h1;have hkv:=Qf7 hH hflat hk hd;have hvv:=QqE hH hsc hx hv;obtain⟨⟨res,hf,hfound⟩,hck⟩:=Qoq hfit hflat hkv E.w h3;have hset:=fun o'=>MapKept.heap_set (o':=o') h2
     have wr:∀es' c',WritesM E g es es' c c' { E.w with heap:=E.w.heap.setIfInBounds g (.map es' c') }:=fun es' c' =>
      ⟨h2,(hset (.map es' c')).1,(hset (.map es' c')).2,by simp,rfl,rfl,rfl⟩
     cases hfound with
     |none g1 g2 =>
      refine⟨_,?_,Step.setM hH rfl rfl hbx hr (wr (es.push ⟨vk,vx,c⟩) (c+1)) ?_,rfl⟩
      ·simp[Instr.mapUpdate,run_underlying hu,MapKept.run_getObj_map h2,hck,hf,MapKept.run_setObj_map _ h2,Qed]
      ·rw[g2,Array.toList_push];exact QmS.push hkv hvv h3
     |some j e v0 g1 g2 g3 g4 g5 =>
      have hj:es[j]?=some e:=by rw[←Array.getElem?_toList];exact g1
      have hst:(Instr.keyThatStays vk vk).run P E.w=.ok vk E.w:=by simp[Instr.keyThatStays,Qlg hflat hkv]
      refine⟨_,?_,Step.setM hH rfl rfl hbx hr (wr (es.modify j fun e=>{ e with key:=vk,val:=vx }) c) ?_,rfl⟩
      ·have hlt:j<es.size:=(Array.getElem?_eq_some_iff.1 hj).1;simp[Instr.mapUpdate,run_underlying hu,MapKept.run_getObj_map h2,hck,hf,MapKept.run_setObj_map _ h2,Qed,hj,g2,hst]
      ·have e1:(es.modify j fun e=>{ e with key:=vk,val:=vx }).toList=es.toList.set j { e with key:=vk,val:=vx }:=by
        rw[Array.toList_modify];apply List.ext_getElem?;intro i;rw[List.getElem?_modify,List.getElem?_set];by_cases hij:j=i
        ·subst hij;have hlt:j<es.toList.length:=(List.getElem?_eq_some_iff.1 g1).1;simp[g1,hlt];simpa using hlt
        ·simp[hij]
       rw[e1];exact g5 v _ rfl hvv
    ·cases h
   ·cases h
  ·cases h
 ·cases h
theorem Qw2{vt:Ty}{w:World}{S:Nat→Prop}{o:Option (Den vt)}{d:Den vt}{v:Value}(h:CR w S vt (QgK o d) [v]){E:Env}(hw:E.w=w)(hS:E.S=S){c:Cell}(hc:cells vt (QgK o d)=[c]):QaK E c [v]:=by
 subst hw;subst hS;have:=h.items;rw[hc] at this;obtain⟨r,s,e,h1,h2⟩:=this;simp only[IR] at h2;subst h2;simp at e;subst e;exact h1
theorem QqF{E:Env}{look:Nat→Option Blk}(hT:TabOk P T)(hH:HeapOk E)(hl:∀b x,look b=some x→E.H b=some x){t:TypeId}{m k:AV}{ok:Bool}{vm vk:Value}{r:Res}(hm:AVR E m vm)(hk:AVR E k vk)(h:QmQ T look t m k ok=some r) :
 ∃v,(Instr.lookup t vm vk ok).run P E.w=.ok v E.w∧AVR E r.val v∧r.add=[]∧r.set=[]:=by
 unfold QmQ at h;split at h
 ·rename_i b;split at h
  ·rename_i ka kt vt l hb;split at h
   ·rename_i hi;split at h
    ·rename_i d hd;split at h
     ·rename_i c hc;obtain⟨key,elem,hu,hfit,hflat,hsc,z,hz1,hz2⟩:=Qsv hT hi;have hbx:=hl _ _ hb;obtain⟨v0,⟨e,_⟩,_,hh⟩:=hm;injection e with e
      subst e;obtain⟨g,hr,rfl⟩:=hh _ _ _ _ hbx;obtain⟨_,⟨g',es,cl,h1,h2,h3⟩,_⟩:=hH.blk _ _ hbx;rw[hr] at h1;injection h1 with h1
      subst h1;have hkv:=Qf7 hH hflat hk hd;obtain⟨⟨res,hf,hfound⟩,hck⟩:=Qoq hfit hflat hkv E.w h3
      have fin:∀(v:Value) (b:Bool),(∀w S,CR w S vt (QgK (Qag l d) (dflt vt)) [v])→b=QjC (Qag l d)→(Instr.lookup t (.map (some g)) vk ok).run P E.w=.ok (if ok then .tuple #[v,.bool b] else v) E.w→∃v,(Instr.lookup t (.map (some g)) vk ok).run P E.w=.ok v E.w∧AVR E r.val v∧r.add=[]∧r.set=[]:=by
       intro v b hv hbb hrun;subst hbb;have hcell:=Qw2 (hv E.w E.S) rfl rfl hc;cases ok with
       |true =>
        simp only[ok1,Option.some.injEq] at h;subst h;exact⟨_,hrun,⟨#[v,.bool (QjC (Qag l d))],rfl,v,[.bool (QjC (Qag l d))],rfl,hcell,_,[],rfl,⟨rfl,rfl⟩,rfl⟩,rfl,rfl⟩
       |false =>
        simp only[ok1,Option.some.injEq] at h;subst h;exact⟨_,hrun,hcell,rfl,rfl⟩
      cases hfound with
      |none g1 g2 =>
       refine fin z false (fun w S=>by rw[g1];exact hz2 w S) (by rw[g1];rfl) ?_;cases ok<;>simp[Instr.lookup,run_underlying hu,MapKept.run_getObj_map h2,hck,hf,hz1]
      |some j e v0 g1 g2 g3 g4 g5 =>
       refine fin e.val true (fun w S=>by rw[g3];exact g4 w S) (by rw[g3];rfl) ?_;cases ok<;>simp[Instr.lookup,run_underlying hu,MapKept.run_getObj_map h2,hck,hf]
     ·cases h
    ·cases h
   ·cases h
  ·cases h
 ·cases h
theorem Qor{w:World}{S:Nat→Prop}:∀{l:List Int} {us:List Value},Qu (CR w S (.int .u8)) l us→us=l.map (.int .u8)
 | [],_,h=>h
 |n::l,_,⟨r,s,e,h1,h2⟩=>by
  have h1:r=[.int .u8 n]:=h1;rw[e,h1,Qor h2];rfl
theorem Qlj:∀(ns:List Int) (s:ByteArray),ns.foldl (fun r n=>r.push (UInt8.ofNat n.toNat)) s=⟨s.data++(ns.map fun n=>UInt8.ofNat n.toNat).toArray⟩
 | [],s=>by simp
 |n::ns,s=>by
  rw[List.foldl_cons,Qlj ns];congr 1;apply Array.ext';simp[ByteArray.push]
theorem Qsw{w:World}{S S':Nat→Prop}{l:List Int}{v:Value}(h:SlR w S (CR w S' (.int .u8)) l v):(Conv.bytesToString v).run P w=.ok (.string (QmO l)) w:=by
 obtain⟨a,cap,rfl,hcap,hh⟩:=h;cases a with
 |none =>
  cases l with
  |nil=>rfl
  |cons x l=>obtain⟨ad,_,h,_⟩:=hh (by simp);cases h
 |some ad =>
  have key:∀j (n:Int),l[j]?=some n→w.cell? (ad.add j)=some (.int .u8 n):=by
   intro j n hj;have hne:l≠[]:=by intro e;subst e;simp at hj
   obtain⟨ad',us,e,_,hl,hc⟩:=hh hne;injection e with e
   subst e;have:=Qor hl;subst this;exact hc j _ (by simp[hj])
  have hload:=run_loadCells_list (P:=P) w ad (l.map (.int .u8)) (fun j v hv=>by
   rw[List.getElem?_map] at hv;cases hj:l[j]? with
   |none=>rw[hj] at hv;cases hv
   |some n=>rw[hj] at hv;injection hv with hv;subst hv;exact key j n hj)
  rw[List.length_map] at hload;rw[run_bytesToString w ad l.length cap l hload,Qlj];congr 3;simp
def roE(E:Env)(w':World):Env:={ E with w:=w',S:=fun g=>E.S g∨g=E.w.heap.size }
theorem Step.newRo{E:Env}{r:Res}{nm:Nat}{w':World}{o:Obj}(hH:HeapOk E)(hr1:r.add=[])(hr2:r.set=[])(hw:w'.heap=E.w.heap.push o)(h1:w'.os=E.w.os)(h2:w'.tape=E.w.tape)(h3:w'.output=E.w.output):Step E r nm (roE E w'):=by
 have hext:Ext E (roE E w'):=by
  refine⟨fun g hg=>⟨.inl hg,Qcb hw (hH.st g hg)⟩,fun b hb=>hb,fun b x' hb hx=>⟨x',hx,rfl,rfl,fun g cs el hr hc=>⟨cs,?_,rfl⟩⟩⟩;rw[show(roE E w').w=w' from rfl,Qcb hw (Array.getElem?_eq_some_iff.1 hc).1];exact hc
 refine⟨hext,⟨fun b x hx=>?_,fun b b' x x' g hx hx' hr hr'=>hH.inj b b' x x' g hx hx' hr hr',fun g hg=>?_⟩,fun b=>by rw[hr1,hr2];rfl,fun b=>by rw[hr1];simp[roE];omega,fun F h=>⟨h1.trans h.os,h2.trans h.tape,h3.trans h.output,?_,fun g hg ho=>?_,fun b x g hx hr=>h.own b x g hx hr,fun g hg=>?_⟩⟩
 ·obtain⟨k1,k2,k3⟩:=hH.blk b x hx;refine⟨k1,k2.ext hext rfl (fun g hg=>Qcb hw (QaR hH hx hg).1),fun g hg hs=>?_⟩;rcases hs with hs|hs
  ·exact k3 g hg hs
  ·have:=(QaR hH hx hg).1;omega
 ·rw[show(roE E w').w=w' from rfl,hw];rcases hg with hg|hg
  ·have:=hH.st g hg;simp;omega
  ·simp;omega
 ·rw[show(roE E w').w=w' from rfl,hw];have:=h.size;simp;omega
 ·rw[show(roE E w').w=w' from rfl,Qcb hw (by have:=h.size;omega)];exact h.old g hg ho
 ·rcases hg with hg|hg
  ·exact h.S g hg
  ·have:=h.size;exact .inr (.inl (by omega))
theorem Qlk{E:Env}(hH:HeapOk E){s d e:TypeId}(t:ByteArray){nm:Nat}(hs:P.underlying s=some .string)(hd:P.underlying d=some (.slice e))(he:P.underlying e=some (.int .u8)) :
 ∃v E',(convert s d (.string t)).run P E.w=.ok v E'.w∧Step E { pre:=none,val:=.cell (.ro (.int .u8) (bytesOf t)),add:=[],set:=[] } nm E'∧AVR E' (.cell (.ro (.int .u8) (bytesOf t))) v:=by
 refine⟨_,roE E _,run_bytes_of_string E.w s d e t hs hd he,Step.newRo hH rfl rfl rfl rfl rfl rfl,?_⟩;refine⟨_,rfl,some ⟨E.w.heap.size,0,none⟩,grownCap E.w t.size 0 e,by simp[bytesOf],?_,fun hne=>?_⟩
 ·have:t.size≤grownCap E.w t.size 0 e:=grownCap_ge E.w t.size 0 e;simpa[bytesOf] using this
 ·refine⟨_,_,rfl,.inr rfl,QeU t.data.toList,fun k u hk=>?_⟩;rw[Qbx,Nat.zero_add];have hb:(E.w.drew).heap.size=E.w.heap.size:=rfl;have:=World.cell?_alloc_mark E.w.drew (bytesRow t (grownCap E.w t.size 0 e)) e ((bytesRow t (grownCap E.w t.size 0 e)).size,(bytesRow t (grownCap E.w t.size 0 e)).size+1) k;rw[hb] at this;refine this.trans ?_;unfold bytesRow;have hlt:=(List.getElem?_eq_some_iff.1 hk).1;rw[List.length_map] at hlt;rw[Array.getElem?_append_left (by simpa using hlt)];rw[List.getElem?_map] at hk;rw[Array.getElem?_map];simpa using hk
end
end Go.Fw

