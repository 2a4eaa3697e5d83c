/- Part 12 of the proof. Conditions: none. -/
import Derived.Test.YtofgbclopbmlcaaGreatG11
import Derived.Laws.Cover3
import Derived.Tactics
import Derived.LoopN
namespace Go.Fw
set_option linter.unusedVariables false
set_option linter.unusedSimpArgs false
structure Sim(st:St)(E:Env)(a:Act):Prop where
 defers:a.defers=[]
 len:a.tmps.size=st.tmps.length
 tmp:∀(i:Nat) x,st.tmps[i]?=some x→∃v,a.tmps[i]?=some v∧AVR E x v
 ok:HeapOk E
 H:∀b,E.H b=st.look b
 U:∀b,E.U b→b<st.heap.length
structure Fr(E0 E:Env):Prop where
 fr:FrameOk (Qhk E0) E
 ext:Ext E0 E
section
variable {P:Program} {T:Tab}
theorem QqG(E:Env)(v:Value):AVR E (Qn3 v) v:=by
 unfold Qn3;split
 ·rename_i cs;split
  ·rename_i h;refine⟨cs,rfl,?_⟩;have h:∀u∈cs.toList,u.oneCell'=true:=fun u hu=>List.all_eq_true.1 h u hu
   generalize cs.toList=l at h
   induction l with
   |nil=>exact rfl
   |cons u l ih=>exact⟨[u],l,rfl,⟨rfl,h u (by simp)⟩,ih fun x hx=>h x (by simp[hx])⟩
  ·trivial
 ·trivial
 ·rename_i h1 h2;refine⟨rfl,?_⟩;cases v<;>first|rfl|exact absurd rfl (h1 _)|exact absurd rfl (h2 _)
theorem Sim.at_{st:St}{E:Env}{a:Act}(h:Sim st E a)(t:Tmp):AVR E (st.tmp t) (a.tmps.getD t undef):=by
 unfold St.tmp;cases hx:st.tmps[t]? with
 |none=>simp[List.getD,hx];trivial
 |some x =>
  obtain⟨v,h1,h2⟩:=h.tmp t x hx;simp[List.getD,hx,h1];exact h2
theorem Sim.eval{st:St}{E:Env}{a:Act}(h:Sim st E a)(x:Operand):AVR E (st.eval x) (a.eval x):=by
 cases x with
 |tmp t=>exact h.at_ t
 |const v=>exact QqG E v
 |func f=>exact⟨#[],rfl,rfl,fun i b hb=>by simp at hb⟩
 |global g=>trivial
theorem Qeh:∀(h:List (Option Blk)) (n:Nat) (o:Option Blk) (b:Nat),(match (QaJ h n o)[b]? with|some x=>x|none=>none)=if b=n then o else (match h[b]? with|some x=>x|none=>none)
 | [],0,o,b=>by
   cases b with
   |zero=>simp[QaJ]
   |succ b=>simp[QaJ]
 | [],n+1,o,b=>by
   cases b with
   |zero=>simp[QaJ]
   |succ b=>simpa[QaJ] using Qeh [] n o b
 |x::r,0,o,b=>by
  cases b with
  |zero=>simp[QaJ]
  |succ b=>simp[QaJ]
 |x::r,n+1,o,b=>by
  cases b with
  |zero=>simp[QaJ]
  |succ b=>simpa[QaJ] using Qeh r n o b
theorem Qfr:∀(h:List (Option Blk)) (n:Nat) (o:Option Blk),(QaJ h n o).length=max h.length (n+1)
 | [],0,o=>by simp[QaJ]
 | [],n+1,o=>by simp[QaJ,Qfr [] n o]
 |x::r,0,o=>by simp[QaJ]
 |x::r,n+1,o=>by simp[QaJ,Qfr r n o]
theorem Qhp:∀(l:List (Nat×Option Blk)) (h:List (Option Blk)) (b:Nat),(match (QdS h l)[b]? with|some x=>x|none=>none)=Qf5 (fun b=>match h[b]? with|some x=>x|none=>none) l b
 | [],h,b=>rfl
 |(n,o)::l,h,b=>by
  rw[QdS,Qhp l,Qf5];congr 1;funext c;exact Qeh h n o c
theorem Qf9:∀(l:List (Nat×Option Blk)) (h:List (Option Blk)),h.length≤(QdS h l).length
 | [],h=>Nat.le_refl _
 |(n,o)::l,h=>by
  rw[QdS];have:=Qf9 l (QaJ h n o);rw[Qfr] at this;omega
theorem Qhq:∀(l:List Blk) (h:List (Option Blk)) (nm b:Nat),(match (QeJ h nm l)[b]? with|some x=>x|none=>none)=addF (fun b=>match h[b]? with|some x=>x|none=>none) nm l b
 | [],h,nm,b=>rfl
 |x::l,h,nm,b=>by
  rw[QeJ,Qhq l,addF];congr 1;funext c;exact Qeh h nm (some x) c
theorem Qei:∀(l:List Blk) (h:List (Option Blk)) (nm:Nat),h.length≤(QeJ h nm l).length∧(0<l.length→nm+l.length≤(QeJ h nm l).length)
 | [],h,nm=>⟨Nat.le_refl _,fun h=>by simp at h⟩
 |x::l,h,nm=>by
  rw[QeJ];obtain⟨h1,h2⟩:=Qei l (QaJ h nm (some x)) (nm+1);rw[Qfr] at h1;refine⟨by omega,fun _=>?_⟩;simp only[List.length_cons];by_cases hl:0<l.length
  ·have:=h2 hl;omega
  ·have:l.length=0:=by omega
   omega
theorem Qov(st:St)(nm:Nat)(r:Res)(b:Nat):(st.act nm r).look b=addF (Qf5 st.look r.set) nm r.add b:=by
 show(match (QeJ (QdS st.heap r.set) nm r.add)[b]? with|some x=>x|none=>none)=_;refine(Qhq _ _ _ _).trans ?_;congr 1;funext c;exact Qhp r.set st.heap c
theorem Sim.step{st:St}{E E':Env}{a:Act}{nm:Nat}{r:Res}{v:Value}{dst:Option Tmp}(h:Sim st E a)(hs:Step E r nm E')(hv:AVR E' r.val v):Sim ((st.act nm r).put dst r.val) E' (a.put dst v):=by
 have hlook:∀b,((st.act nm r).put dst r.val).look b=(st.act nm r).look b:=fun b=>by cases dst<;>rfl
 have hheap:((st.act nm r).put dst r.val).heap=(st.act nm r).heap:=by cases dst<;>rfl
 refine⟨by cases dst<;>exact h.defers,?_,fun i x hx=>?_,hs.ok,fun b=>?_,fun b hb=>?_⟩
 ·cases dst with
  |none=>exact h.len
  |some d=>simp[Act.put,St.put,St.act,h.len]
 ·cases dst with
  |none =>
   obtain⟨u,h1,h2⟩:=h.tmp i x hx;exact⟨u,h1,h2.ext hs.ext⟩
  |some d =>
   simp only[St.put,St.act,List.getElem?_set] at hx;by_cases hd:d=i
   ·subst hd;simp only[if_true] at hx;split at hx
    ·rename_i hlt;injection hx with hx
     subst hx;exact⟨v,by simp[Act.put,h.len,hlt],hv⟩
    ·cases hx
   ·rw[if_neg hd] at hx;obtain⟨u,h1,h2⟩:=h.tmp i x hx;exact⟨u,by simp[Act.put,Array.getElem?_setIfInBounds_ne hd,h1],h2.ext hs.ext⟩
 ·rw[hlook,hs.H,Qov];congr 1;funext c;congr 1;funext d;exact h.H d
 ·rw[hheap];have h1:=Qf9 r.set st.heap;obtain⟨h2,h3⟩:=Qei r.add (QdS st.heap r.set) nm;have h4:(st.act nm r).heap=QeJ (QdS st.heap r.set) nm r.add:=rfl;rw[h4];rcases(hs.U b).1 hb with h5|⟨h5,h6⟩
  ·have:=h.U b h5;omega
  ·have:=h3 (by omega);omega
theorem Fr.step{E0 E E':Env}{nm:Nat}{r:Res}(h:Fr E0 E)(hs:Step E r nm E'):Fr E0 E':=⟨hs.fr _ h.fr,h.ext.trans hs.ext⟩
theorem Qow{p:Option Prop}{q:Prop}(h:need p q):(∀x,p=some x→x)∧q:=by
 cases p with
 |none=>exact⟨fun x hx=>(by cases hx),h⟩
 |some p =>
  have:=Need.out h;exact⟨fun x hx=>by injection hx with hx;subst hx;exact this.1,this.2⟩
theorem Qhr(hT:TabOk P T){o:Oper}{st:St}{E:Env}{a:Act}(hs:Sim st E a){eq:Bool}{A B:Prop}(h:QmR T st o=some (eq,A,B)) :
 ∃nil:Bool,(execOp a.eval o).run P E.w=.ok (.value (.bool (if nil then eq else !eq))) E.w∧(nil=true→A)∧(nil=false→B):=by
 have key:∀{op:BinOp} {t e:TypeId} {x:Operand} {v:Value} {nil:Bool},(op=.eql∨op=.neq)→P.underlying t=some (.slice e)→a.eval x=v→(∃ad n c,v=.slice ad n c∧ad.isNone=nil) →
  (do eqGuard op t x (.const (.slice none 0 0)) v (.slice none 0 0);binOp op t v (.slice none 0 0):Sem Value).run P E.w=.ok (.bool (if nil then decide (op=.eql) else !decide (op=.eql))) E.w:=by
  rintro op t e x v nil hop hu hx ⟨ad,n,c,rfl,rfl⟩
  rcases hop with rfl|rfl
  ·have h1:(Op.equal t (.slice ad n c) (.slice none 0 0)).run P E.w=.ok ad.isNone E.w:=run_equal_slice_nil E.w t e ad n c hu;simp[eqGuard,binOp,h1];cases ad<;>rfl
  ·have h1:(binOp .neq t (.slice ad n c) (.slice none 0 0)).run P E.w=.ok (.bool (!ad.isNone)) E.w:=run_neq_slice_nil E.w t e ad n c hu;simp[eqGuard,h1];cases ad<;>rfl
 have rel:∀{c:Cell} {t:Ty} {l:List (Den t)} {v:Value},Qar st.look c=some ⟨t,l⟩→QaK E c [v]→∃ad n cp,v=.slice ad n cp∧(ad.isNone=true→l.length=0):=by
  intro c t l v h hc;obtain⟨ad,cap,e,_,h2⟩:=Qcj hs.ok (fun b x hb=>(hs.H b).trans hb) h hc;refine⟨ad,_,cap,e,fun hn=>?_⟩;cases l with
  |nil=>rfl
  |cons y l =>
   obtain⟨ad',_,he,_⟩:=h2 (by simp);rw[he] at hn;cases hn
 obtain⟨dst,op,ty,pos,after,guard⟩:=o;unfold QmR at h;simp only at h;split at h
 ·rename_i bop t x bty;split at h
  ·rename_i ti hti;have hok:=(hT.ty _ _ hti).und
   have fin:∀{bop:BinOp} {e:TypeId} {eq:Bool} {A B:Prop},(bop=.eql∨bop=.neq)→decide (bop=.eql)=eq→P.underlying t=some (.slice e) →
    (match st.eval x with
      |.one (.c (.imm (.slice none 0 0)))=>some (eq,True,False)
      |.one (.c c)=>match Qar st.look c with|some ⟨_,l⟩=>some (eq,l.length=0,True)|none=>none
      |_=>none)=some (eq,A,B) →
    ∃nil:Bool,(execOp a.eval { dst:=dst,op:=.binOp bop t x (.const (.slice none 0 0)) bty,type:=ty,pos:=pos,after:=after,guard:=guard }).run P E.w=.ok (.value (.bool (if nil then eq else !eq))) E.w∧(nil=true→A)∧(nil=false→B):=by
    intro bop e eq A B hop heq hu h;have he:=hs.eval x;have vl:∀(s:Sem Value) v w',s.run P E.w=.ok v w'→(do pure (.value (←s)):Sem Next).run P E.w=.ok (.value v) w':=fun s v w' hs=>by simp[hs]
    split at h
    ·rename_i hx;rw[hx] at he;obtain⟨hv,_⟩:=he;injection hv with hv
     simp only[Option.some.injEq,Prod.mk.injEq] at h;obtain⟨_,rfl,rfl⟩:=h;refine⟨true,?_,fun _=>trivial,fun h=>by cases h⟩;have:=key (nil:=true) hop hu rfl ⟨none,0,0,hv,rfl⟩;rw[heq] at this;exact vl _ _ _ this
    ·rename_i c _ hx;rw[hx] at he;split at h
     ·rename_i t' l hsl;simp only[Option.some.injEq,Prod.mk.injEq] at h;obtain⟨_,rfl,rfl⟩:=h;obtain⟨ad,n,cp,hv,hn⟩:=rel hsl he;refine⟨ad.isNone,?_,hn,fun _=>trivial⟩;have:=key (nil:=ad.isNone) hop hu rfl ⟨ad,n,cp,hv,rfl⟩;rw[heq] at this;exact vl _ _ _ this
     ·cases h
    ·cases h
   split at h
   ·rename_i e hd;rw[hd] at hok
    have hq:eq=true:=by
     split at h
     ·simp only[Option.some.injEq,Prod.mk.injEq] at h;exact h.1.symm
     ·split at h
      ·simp only[Option.some.injEq,Prod.mk.injEq] at h;exact h.1.symm
      ·cases h
     ·cases h
    subst hq;exact fin (.inl rfl) rfl hok h
   ·rename_i e hd;rw[hd] at hok
    have hq:eq=false:=by
     split at h
     ·simp only[Option.some.injEq,Prod.mk.injEq] at h;exact h.1.symm
     ·split at h
      ·simp only[Option.some.injEq,Prod.mk.injEq] at h;exact h.1.symm
      ·cases h
     ·cases h
    subst hq;exact fin (.inr rfl) rfl hok h
   ·cases h
  ·cases h
 ·cases h
theorem Sim.putV{st:St}{E:Env}{a:Act}(h:Sim st E a)(dst:Option Tmp){x:AV}{v:Value}(hx:AVR E x v):Sim (st.put dst x) E (a.put dst v):=by
 cases dst with
 |none=>exact h
 |some d =>
  refine⟨h.defers,by simp[St.put,Act.put,h.len],fun i y hy=>?_,h.ok,h.H,h.U⟩;simp only[St.put,List.getElem?_set] at hy;by_cases hd:d=i
  ·subst hd;simp only[if_true] at hy;split at hy
   ·rename_i hlt;injection hy with hy
    subst hy;exact⟨v,by simp[Act.put,h.len,hlt],hx⟩
   ·cases hy
  ·rw[if_neg hd] at hy;obtain⟨u,h1,h2⟩:=h.tmp i y hy;exact⟨u,by simp[Act.put,Array.getElem?_setIfInBounds_ne hd,h1],h2⟩
theorem QqH(hT:TabOk P T)(hP:Q9 P T){o:Oper}{nm:Nat}{st:St}{K:St→Prop}(h:QwR T o nm st K){E0 E:Env}{a:Act}(hs:Sim st E a)(hf:Fr E0 E)(hnm:st.heap.length≤nm)
 {next:Act→World→Prop} {Q:Exit→Act→World→Prop} (hn:∀st' E' a',Sim st' E' a'→Fr E0 E'→K st'→next a' E'.w):o.wp P a E.w next Q:=by
 unfold QwR at h;split at h
 ·rename_i A B hnil;obtain⟨nil,hr,hA,hB⟩:=Qhr hT hs hnil;cases h with
  |mk h1 h2 =>
   refine Qbo hr ?_;cases nil with
   |true=>have:=h1 (hA rfl);rw[Qbd] at this;exact hn _ E _ (hs.putV (x:=.cell (bv _)) o.dst ⟨rfl,rfl⟩) hf this
   |false=>have:=h2 (hB rfl);rw[Qbd] at this;exact hn _ E _ (hs.putV (x:=.cell (bv _)) o.dst ⟨rfl,rfl⟩) hf this
 ·rename_i A B hnil;obtain⟨nil,hr,hA,hB⟩:=Qhr hT hs hnil;cases h with
  |mk h1 h2 =>
   refine Qbo hr ?_;cases nil with
   |true=>have:=h1 (hA rfl);rw[Qbd] at this;exact hn _ E _ (hs.putV (x:=.cell (bv _)) o.dst ⟨rfl,rfl⟩) hf this
   |false=>have:=h2 (hB rfl);rw[Qbd] at this;exact hn _ E _ (hs.putV (x:=.cell (bv _)) o.dst ⟨rfl,rfl⟩) hf this
 split at h
 ·rename_i r hr;obtain⟨hp,hk⟩:=Qow h;rw[Qsj,Qbd] at hk;exact Qho hT hP hs.ok hs.eval (fun b x hb=>(hs.H b).trans hb) hr hp (fun k _ hU=>by have:=hs.U _ hU;omega) fun E' v h1 h2=>hn _ E' _ (hs.step h1 h2) (hf.step h1) hk
 ·exact h.elim
theorem Sim.same{st:St}{E:Env}{a:Act}(h:Sim st E a){d:Tmp}{x:AV}(hx:AVR E x (a.tmps.getD d undef)):Sim (st.put (some d) x) E a:=by
 refine⟨h.defers,by simp[St.put,h.len],fun i y hy=>?_,h.ok,h.H,h.U⟩;simp only[St.put,List.getElem?_set] at hy;by_cases hd:d=i
 ·subst hd;simp only[if_true] at hy;split at hy
  ·rename_i hlt;injection hy with hy
   subst hy;have hlt':d<a.tmps.size:=by rw[h.len];exact hlt
   refine⟨a.tmps[d],by simp[hlt'],?_⟩;simpa[hlt'] using hx
  ·cases hy
 ·rw[if_neg hd] at hy;exact h.tmp i y hy
theorem Sim.dead{st:St}{E:Env}{a:Act}(h:Sim st E a)(dst:Option Tmp):Sim (st.put dst .dead) E (a.put dst undef):=by
 cases dst with
 |none=>exact h
 |some d =>
  refine⟨h.defers,by simp[St.put,Act.put,h.len],fun i y hy=>?_,h.ok,h.H,h.U⟩;simp only[St.put,List.getElem?_set] at hy;by_cases hd:d=i
  ·subst hd;simp only[if_true] at hy;split at hy
   ·rename_i hlt;injection hy with hy
    subst hy;exact⟨undef,by simp[Act.put,h.len,hlt],trivial⟩
   ·cases hy
  ·rw[if_neg hd] at hy;obtain⟨u,h1,h2⟩:=h.tmp i y hy;exact⟨u,by simp[Act.put,Array.getElem?_setIfInBounds_ne hd,h1],h2⟩
theorem Sim.skip{st:St}{E:Env}{a:Act}(h:Sim st E a)(dst:Option Tmp):Sim (st.put dst (.tup [])) E (a.put dst undef):=by
 cases dst with
 |none=>exact h
 |some d =>
  refine⟨h.defers,by simp[St.put,Act.put,h.len],fun i y hy=>?_,h.ok,h.H,h.U⟩;simp only[St.put,List.getElem?_set] at hy;by_cases hd:d=i
  ·subst hd;simp only[if_true] at hy;split at hy
   ·rename_i hlt;injection hy with hy
    subst hy;exact⟨undef,by simp[Act.put,h.len,hlt],⟨#[],rfl,rfl⟩⟩
   ·cases hy
  ·rw[if_neg hd] at hy;obtain⟨u,h1,h2⟩:=h.tmp i y hy;exact⟨u,by simp[Act.put,Array.getElem?_setIfInBounds_ne hd,h1],h2⟩
theorem Qlm{ops:Array Oper}{o:Oper}{d:Tmp}{want b:Bool}{st:St}{E:Env}{a:Act}(h:Sim st E a)(hg:Qav ops o=some (some (d,want)))(hb:st.tmp d=.cell (bv b)) :
 Region.wanted o (yielded ops a.tmps)=(b==want)∧a.tmps.getD d undef=.bool b:=by
 have hrel:=h.at_ d;rw[hb] at hrel;obtain⟨e,_⟩:=hrel;injection e with e
 refine⟨?_,e⟩;unfold Qav at hg;unfold Region.wanted;cases ho:o.guard with
 |none=>rw[ho] at hg;cases hg
 |some jw =>
  obtain⟨j,w⟩:=jw;rw[ho] at hg;simp only at hg;cases hj:ops[j]? with
  |none=>rw[hj] at hg;cases hg
  |some oj =>
   rw[hj] at hg;simp only at hg;cases hd:oj.dst with
   |none=>rw[hd] at hg;cases hg
   |some d' =>
    rw[hd] at hg;simp only[Option.some.injEq,Prod.mk.injEq] at hg;obtain⟨rfl,rfl⟩:=hg
    have hlt:d'<a.tmps.size:=by
     rcases Nat.lt_or_ge d' a.tmps.size with h|h
     ·exact h
     ·rw[Array.getD_eq_getD_getElem?,Array.getElem?_eq_none h] at e;simp[undef] at e
    have:a.tmps[d']?=some (.bool b):=by
     rw[Array.getElem?_eq_getElem hlt,←e];simp[hlt]
    simp[yielded,hj,hd,this]
theorem Qln{ops:Array Oper}{o:Oper}{d:Tmp}{want:Bool}{st:St}{E:Env}{a:Act}(h:Sim st E a)(hg:Qav ops o=some (some (d,want)))(hb:st.tmp d=.tup []) :
 Region.wanted o (yielded ops a.tmps)=false:=by
 have hrel:=h.at_ d;rw[hb] at hrel;obtain⟨vs,e,_⟩:=hrel;unfold Qav at hg;unfold Region.wanted;cases ho:o.guard with
 |none=>rw[ho] at hg;cases hg
 |some jw =>
  obtain⟨j,w⟩:=jw;rw[ho] at hg;simp only at hg;cases hj:ops[j]? with
  |none=>rw[hj] at hg;cases hg
  |some oj =>
   rw[hj] at hg;simp only at hg;cases hd:oj.dst with
   |none=>rw[hd] at hg;cases hg
   |some d' =>
    rw[hd] at hg;simp only[Option.some.injEq,Prod.mk.injEq] at hg;obtain⟨rfl,rfl⟩:=hg
    have:yielded ops a.tmps j=none:=by
     unfold yielded;simp only[hj,Option.bind_some,hd];cases ht:a.tmps[d']? with
     |none=>rfl
     |some x =>
      have:x=.tuple vs:=by
       rw[←e,Array.getD_eq_getD_getElem?,ht];rfl
      rw[this]
    show(yielded ops a.tmps j==some w)=false;rw[this];rfl
theorem Qi5{ops:Array Oper}{o:Oper}(hg:Qav ops o=some none)(y:Nat→Option Bool):Region.wanted o y=true:=by
 unfold Qav at hg;unfold Region.wanted;cases ho:o.guard with
 |none=>rfl
 |some jw =>
  obtain⟨j,w⟩:=jw;rw[ho] at hg;simp only at hg;split at hg
  ·split at hg<;>simp at hg
  ·cases hg
theorem Qcm(hT:TabOk P T)(hP:Q9 P T){ops:Array Oper}{E0:Env}{Q:Exit→Act→World→Prop}:∀(l:List Oper) (k:Nat) {st:St} {K:St→Prop} {E:Env} {a:Act},ops.toList.drop k=l→Qf4 T ops l st K→Sim st E a→Fr E0 E →
 (∀st' E' a',Sim st' E' a'→Fr E0 E'→K st'→Q .normal a' E'.w)→wpOps P ops Q (List.range' k l.length) a E.w
 | [],k,st,K,E,a,_,h,hs,hf,hq=>by
   simp only[List.length_nil,List.range'_zero,wpOps];exact hq st E a hs hf h
 |o::l,k,st,K,E,a,hd,h,hs,hf,hq=>by
  have hk:ops[k]?=some o:=by
   rw[←Array.getElem?_toList];have:=congrArg (·[0]?) hd;simpa using this
  have hd':ops.toList.drop (k+1)=l:=by
   have:=congrArg (List.drop 1) hd;simpa using this
  have run:∀(st1:St),Sim st1 E a→(Qau lits st1.heap st1.heap.length fun nm=>QwR T o nm st1 fun st'=>Qf4 T ops l st' K)→o.wp P a E.w (wpOps P ops Q (List.range' (k+1) l.length)) Q:=by
   intro st1 hs1 h1;obtain⟨nm,h2,h1⟩:=named h1;exact QqH hT hP h1 hs1 hf h2 fun st' E' a' g1 g2 g3=>Qcm hT hP l (k+1) hd' g3 g1 g2 hq
  rw[List.length_cons,List.range'_succ];simp only[wpOps,hk];unfold Qf4 at h;split at h
  ·exact h.elim
  ·rename_i hg;rw[if_pos (Qi5 hg _)];exact .inl (run st hs h)
  ·rename_i d want hg;split at h
   ·rename_i b hb;obtain⟨h1,h2⟩:=Qlm hs hg hb;rw[h1];cases b with
    |true =>
     simp only[Br] at h;have hs':Sim (st.put (some d) (.cell (bv true))) E a:=hs.same (by rw[h2];exact⟨rfl,rfl⟩);cases want with
     |true=>simp only[Qbd] at h;exact .inl (run _ hs' h)
     |false=>simp only[Qbd] at h;exact Qcm hT hP l (k+1) hd' h (hs'.skip o.dst) hf hq
    |false =>
     simp only[Br] at h;have hs':Sim (st.put (some d) (.cell (bv false))) E a:=hs.same (by rw[h2];exact⟨rfl,rfl⟩);cases want with
     |false=>simp only[Qbd] at h;exact .inl (run _ hs' h)
     |true=>simp only[Qbd] at h;exact Qcm hT hP l (k+1) hd' h (hs'.skip o.dst) hf hq
   ·rename_i hb;rw[Qln hs hg hb];simp only[Qbd] at h;exact Qcm hT hP l (k+1) hd' h (hs.skip o.dst) hf hq
   ·exact h.elim
end
abbrev Cont:=Exit→St→Prop
def Cov(K:Cont)(E0:Env)(Q:Exit→Act→World→Prop):Prop :=
 ∀e st' E' a',K e st'→Sim st' E' a'→Fr E0 E'→Q e a' E'.w
def Does(P:Program)(m:Nat)(c:Code)(st:St)(K:Cont):Prop :=
 ∀E0 Q E a,(∀b,E0.U b→b<m)→Sim st E a→Fr E0 E→Cov K E0 Q→c.wp P Q a E.w
inductive LoopG(P:Program)(m:Nat)(c:Code)(st:St)(K:Cont):Prop where
 |mk:Does P m (.loop c) st K→LoopG P m c st K
inductive DrawG(P:Program)(m:Nat)(id:Nat)(ops:Array Oper)(st:St)(K:St→Prop):Prop where
 |mk:Does P m (.region id ops true) st (fun e st'=>e=.normal∧K st')→DrawG P m id ops st K
def QD5(st:St)(c:Operand)(b:Bool):St:=match c with|.tmp t=>st.put (some t) (.cell (bv b))|_=>st
def ex(P:Program)(T:Tab)(m:Nat):Code→St→Cont→Prop
 |.skip,st,K=>K .normal st
 |.label _,st,K=>K .normal st
 |.seq x y,st,K=>ex P T m x st fun e st'=>match e with
  |.normal=>ex P T m y st' K
  |.exit i=>K (.exit i) st'
  |.ret=>K .ret st'
  |_=>False
 |.cond c x y,st,K=>match st.eval c with
  |.one (.c (.imm (.bool b)))=>Br b (fSt (QD5 st c true) fun st=>ex P T m x st K) (fSt (QD5 st c false) fun st=>ex P T m y st K)
  |_=>False
 |.block id c,st,K=>ex P T m c st fun e st'=>match e with
  |.normal=>K .normal st'
  |.exit i=>(match Nat.beq i id with|true=>K .normal st'|false=>K (.exit i) st')
  |.ret=>K .ret st'
  |_=>False
 |.loop c,st,K=>LoopG P m c st K
 |.exit i,st,K=>K (.exit i) st
 |.ret,st,K=>K .ret st
 |.region id ops d,st,K=>match d with
  |false=>Qf4 T ops ops.toList st fun st'=>K .normal st'
  |true=>DrawG P m id ops st fun st'=>K .normal st'
 |_,_,_=>False
section
variable {P:Program} {T:Tab}
theorem Sim.lit{st:St}{E:Env}{a:Act}(h:Sim st E a){c:Operand}{b:Bool}(hc:st.eval c=.one (.c (.imm (.bool b)))):Sim (QD5 st c b) E a∧a.eval c=.bool b:=by
 have h1:=h.eval c;rw[hc] at h1;obtain⟨h1,_⟩:=h1;injection h1 with h1
 refine⟨?_,h1⟩;unfold QD5;split
 ·rename_i t;refine h.same ?_;have:a.tmps.getD t undef=.bool b:=h1;rw[this];exact⟨rfl,rfl⟩
 ·exact h
theorem QgS(hT:TabOk P T)(hP:Q9 P T){m:Nat}:∀(c:Code) {st:St} {K:Cont},ex P T m c st K→Does P m c st K:=by
 intro c
 induction c with
 |skip=>intro st K h E0 Q E a hm hs hf hc;exact wp_skip (hc _ _ _ _ h hs hf)
 |label l=>intro st K h E0 Q E a hm hs hf hc;exact wp_label (hc _ _ _ _ h hs hf)
 |exit i=>intro st K h E0 Q E a hm hs hf hc;exact wp_exit (hc _ _ _ _ h hs hf)
 |ret=>intro st K h E0 Q E a hm hs hf hc;exact wp_ret (hc _ _ _ _ h hs hf)
 |seq x y hx hy =>
  intro st K h E0 Q E a hm hs hf hc;unfold ex at h;refine wp_seq (hx h E0 _ E a hm hs hf ?_);intro e st' E' a' hk hs' hf';cases e with
  |normal=>exact hy hk E0 Q E' a' hm hs' hf' hc
  |exit i=>exact hc _ _ _ _ hk hs' hf'
  |ret=>exact hc _ _ _ _ hk hs' hf'
  |goto l=>exact hk.elim
  |panic ch=>exact hk.elim
  |outgrown=>exact hk.elim
 |cond c x y hx hy =>
  intro st K h E0 Q E a hm hs hf hc;unfold ex at h;split at h
  ·rename_i b hb;obtain⟨hs',he⟩:=hs.lit hb;rw[Qbd,Qbd] at h;cases b with
   |true=>exact wp_cond_true he (hx h E0 Q E a hm hs' hf hc)
   |false=>exact wp_cond_false he (hy h E0 Q E a hm hs' hf hc)
  ·exact h.elim
 |block id c hx =>
  intro st K h E0 Q E a hm hs hf hc;unfold ex at h;refine wp_block (hx h E0 _ E a hm hs hf ?_);intro e st' E' a' hk hs' hf';cases e with
  |normal=>exact hc _ _ _ _ hk hs' hf'
  |exit i =>
   simp only[Exit.inBlock];simp only at hk;split at hk
   ·rename_i hb;rw[if_pos (Nat.eq_of_beq_eq_true hb)];exact hc _ _ _ _ hk hs' hf'
   ·rename_i hb;rw[if_neg (fun e=>by subst e;simp at hb)];exact hc _ _ _ _ hk hs' hf'
  |ret=>exact hc _ _ _ _ hk hs' hf'
  |goto l=>exact hk.elim
  |panic ch=>exact hk.elim
  |outgrown=>exact hk.elim
 |loop c hx=>intro st K h;cases h with|mk h=>exact h
 |region id ops d =>
  intro st K h E0 Q E a hm hs hf hc;unfold ex at h;cases d with
  |true =>
   cases h with
   |mk h =>
    refine h E0 Q E a hm hs hf ?_
    rintro e st' E' a' ⟨rfl,hk⟩ hs' hf'
    exact hc _ _ _ _ hk hs' hf'
  |false =>
   refine wp_region ?_;rw[List.range_eq_range'];have:=Qcm (Q:=Q) hT hP ops.toList 0 (by simp) h hs hf fun st' E' a' h1 h2 h3=>hc _ _ _ _ h3 h1 h2
   simpa using this
 |_=>intro st K h;exact h.elim
theorem Qm2{p:Nat→Prop}(h:∃n,p n):∃n,p n∧∀k,p k→n≤k:=by
 obtain⟨n,hn⟩:=h
 induction n using Nat.strongRecOn with
 |_ n ih =>
  by_cases hs:∃k,k<n∧p k
  ·obtain⟨k,hk,hp⟩:=hs;exact ih k hk hp
  ·exact⟨n,hn,fun k hk=>by rcases Nat.lt_or_ge k n with h|h;exact absurd ⟨k,h,hk⟩ hs;exact h⟩
open Classical in
noncomputable def least(p:Nat→Prop):Nat:=if h:∃n,p n then Classical.choose (Qm2 h) else 0
theorem Qw6{p:Nat→Prop}(h:∃n,p n):p (least p):=by
 unfold least;rw[dif_pos h];exact(Classical.choose_spec (Qm2 h)).1
theorem Qw7{p:Nat→Prop}{n:Nat}(h:p n):least p≤n:=by
 unfold least;rw[dif_pos ⟨n,h⟩];exact(Classical.choose_spec (Qm2 ⟨n,h⟩)).2 n h
def Le(m:Nat)(st st':St):Prop :=
 ∀E0 E a,(∀b,E0.U b→b<m)→Sim st E a→Fr E0 E→∃E',E'.w=E.w∧Sim st' E' a∧Fr E0 E'
theorem Le.refl(m:Nat)(st:St):Le m st st:=fun E0 E a _ hs hf=>⟨E,rfl,hs,hf⟩
theorem Qlo{X:Type}{m:Nat}{c:Code}{st:St}{K:Cont}(S:X→St)(I:X→Prop)(μ:X→Nat)(x0:X)(h0:Le m st (S x0))(hI:I x0)
 (h:∀x,I x→Does P m c (S x) fun e st'=>match e with|.normal=>∃x',I x'∧μ x'<μ x∧Le m st' (S x')|e=>K e st'):LoopG P m c st K:=by
 refine .mk fun E0 Q E a hm hs hf hc=>?_
 let at_:Act→World→Nat→Prop:=fun a w n=>∃x E,I x∧μ x=n∧E.w=w∧Sim (S x) E a∧Fr E0 E
 refine wp_loop (fun a w=>∃n,at_ a w n) (fun a w=>least (at_ a w)) ?_ ?_
 ·obtain⟨E',e,h1,h2⟩:=h0 E0 E a hm hs hf;exact⟨_,x0,E',hI,rfl,e,h1,h2⟩
 ·intro a w hn;obtain⟨x,E,hIx,hμ,rfl,h1,h2⟩:=Qw6 hn;refine h x hIx E0 _ E a hm h1 h2 ?_;intro e st' E' a' hk hs' hf';cases e with
  |normal =>
   obtain⟨x',hI',hlt,hle⟩:=hk;obtain⟨E'',e,h3,h4⟩:=hle E0 E' a' hm hs' hf';have hat:at_ a' E'.w (μ x'):=⟨x',E'',hI',rfl,e,h3,h4⟩
   refine⟨⟨_,hat⟩,?_⟩;have:=Qw7 hat;show least (at_ a' E'.w)<least (at_ a E.w);rw[←hμ];omega
  |_=>exact hc _ _ _ _ hk hs' hf'
def RD(P:Program)(m:Nat)(c:Code)(K:Cont):Nat→St→Prop
 |0,_=>False
 |n+1,st=>Does P m c st fun e st'=>match e with|.normal=>RD P m c K n st'|e=>K e st'
inductive RoundG(P:Program)(m:Nat)(c:Code)(K:Cont)(n:Nat)(st:St):Prop where
 |mk:RD P m c K n st→RoundG P m c K n st
theorem Qlp{m:Nat}{c:Code}{K:Cont}{E0:Env}{Q:Exit→Act→World→Prop}(hm:∀b,E0.U b→b<m)(hc:Cov K E0 Q):∀(n:Nat) {st:St} {E:Env} {a:Act},RD P m c K n st→Sim st E a→Fr E0 E→Code.rounds P c Q n a E.w
 |0,_,_,_,h,_,_=>h.elim
 |n+1,st,E,a,h,hs,hf=>by
  refine h E0 _ E a hm hs hf ?_;intro e st' E' a' hk hs' hf';cases e with
  |normal=>exact Qlp hm hc n hk hs' hf'
  |_=>exact hc _ _ _ _ hk hs' hf'
theorem QX{m:Nat}{c:Code}{st:St}{K:Cont}(n:Nat)(h:RoundG P m c K n st):LoopG P m c st K :=
 .mk fun E0 Q E a hm hs hf hc=>wp_loop_rounds n (by cases h with|mk h=>exact Qlp hm hc n h hs hf)
theorem QEi{m n:Nat}{c:Code}{st:St}{K:Cont}(h:Does P m c st fun e st'=>match e with|.normal=>RoundG P m c K n st'|e=>K e st'):RoundG P m c K (n+1) st:=by
 refine .mk fun E0 Q E a hm hs hf hc=>h E0 Q E a hm hs hf ?_
 intro e st' E' a' hk hs' hf';refine hc e st' E' a' ?_ hs' hf';cases e with
 |normal=>cases hk with|mk hk=>exact hk
 |_=>exact hk
theorem Does.mono{m:Nat}{c:Code}{st:St}{K K':Cont}(h:Does P m c st K)(hk:∀e st',K e st'→K' e st'):Does P m c st K' :=
 fun E0 Q E a hm hs hf hc=>h E0 Q E a hm hs hf fun e st' E' a' h1 h2 h3=>hc e st' E' a' (hk _ _ h1) h2 h3
end
def memN(b:Nat):List Nat→Bool
 | []=>false
 |x::r=>match Nat.beq b x with|true=>true|false=>memN b r
theorem QdW{b:Nat}:∀{l:List Nat},memN b l=true→b∈l
 | [],h=>by cases h
 |x::r,h=>by
  unfold memN at h;split at h
  ·rename_i hb;rw[Nat.eq_of_beq_eq_true hb];simp
  ·exact List.mem_cons_of_mem _ (QdW h)
theorem Qga{b:Nat}:∀{l:List Nat},memN b l=false→b∉l
 | [],h=>by simp
 |x::r,h=>by
  unfold memN at h;split at h
  ·cases h
  ·rename_i hb;have:=Qga h;intro hm;rcases List.mem_cons.1 hm with rfl|hm
   ·simp at hb
   ·exact this hm
section
variable (look:Nat→Option Blk) (us:List Nat)
def fzC(c:Cell):Cell:=match c with
 |.own b=>match memN b us with
  |true=>match Qar look (.own b) with|some ⟨t,l⟩=>.ro t l|none=>.own b
  |false=>.own b
 |.sub b o n=>match memN b us with
  |true=>match Qar look (.sub b o n) with|some ⟨t,l⟩=>.ro t l|none=>.sub b o n
  |false=>.sub b o n
 |c=>c
def fzV:V1→V1
 |.c x=>.c (fzC look us x)
 |.agg cs=>.agg (cs.map (fzC look us))
def fzA:AV→AV
 |.dead=>.dead
 |.one v=>.one (fzV look us v)
 |.tup l=>.tup (l.map (fzV look us))
def fzB:Blk→Blk
 |.arr t l=>.arr t l
 |.var cs=>.var (cs.map (fzC look us))
 |.mp ka kt vt l=>.mp ka kt vt l
def inN(acc:List Nat):List Nat→Bool
 | []=>true
 |x::r=>match memN x acc with|true=>inN acc r|false=>false
def Qox:List Nat→Bool
 | []=>true
 |x::r=>match memN x r with|true=>false|false=>Qox r
def Qw8:Nat→Nat→List Nat→Bool
 |0,_,_=>true
 |_+1,_,[]=>false
 |m+1,k,x::r=>match Nat.beq x k with|true=>Qw8 m (k+1) r|false=>false
def QgC(m:Nat)(acc:List Nat):Bool:=match Qox acc with|true=>Qw8 m 0 acc|false=>false
def Qr4(acc:List Nat):List Nat→Bool
 | []=>true
 |n::r=>match memN n us with
  |true=>Qr4 acc r
  |false=>match look n with
   |some x=>(match inN acc (fzB look us x).names with|true=>Qr4 acc r|false=>false)
   |none=>Qr4 acc r
def wkB(acc:List Nat)(n:Nat):Option Blk:=match memN n us with
 |true=>none
 |false=>match look n with
  |some x=>some ((fzB look us x).rn (idx acc))
  |none=>none
def wkH(acc:List Nat):List (Option Blk):=acc.map (wkB look us acc)
end
theorem Qm3{acc:List Nat}:∀{l:List Nat},inN acc l=true→∀x∈l,x∈acc
 | [],_,x,hx=>by cases hx
 |y::r,h,x,hx=>by
  unfold inN at h;split at h
  ·rename_i hy;rcases List.mem_cons.1 hx with rfl|hx
   ·exact QdW hy
   ·exact Qm3 h x hx
  ·cases h
theorem Qlq:∀{l:List Nat},Qox l=true→l.Nodup
 | [],_=>List.nodup_nil
 |x::r,h=>by
  unfold Qox at h;split at h
  ·cases h
  ·rename_i hx;exact List.nodup_cons.2 ⟨Qga hx,Qlq h⟩
theorem Qoy:∀{m k:Nat} {l:List Nat},Qw8 m k l=true→∀i,i<m→l[i]?=some (k+i)
 |0,_,_,_,i,hi=>by omega
 |_+1,_,[],h,_,_=>by cases h
 |m+1,k,x::r,h,i,hi=>by
  unfold Qw8 at h;split at h
  ·rename_i hx;cases i with
   |zero=>simp[Nat.eq_of_beq_eq_true hx]
   |succ i=>have:=Qoy h i (by omega);simp[this];omega
  ·cases h
theorem Qsy{m:Nat}{acc:List Nat}(h:QgC m acc=true):acc.Nodup∧∀i,i<m→acc[i]?=some i:=by
 unfold QgC at h;split at h
 ·rename_i h1;exact⟨Qlq h1,fun i hi=>by have:=Qoy h i hi;simpa using this⟩
 ·cases h
theorem Qsz{look:Nat→Option Blk}{us acc:List Nat}:∀{l:List Nat},Qr4 look us acc l=true→∀n∈l,n∉us→∀x,look n=some x→∀k∈(fzB look us x).names,k∈acc
 | [],_,n,hn=>by cases hn
 |y::r,h,n,hn=>by
  intro hu x hx k hk;unfold Qr4 at h;rcases List.mem_cons.1 hn with rfl|hn
  ·split at h
   ·rename_i hm;exact absurd (QdW hm) hu
   ·rw[hx] at h;simp only at h;split at h
    ·rename_i hi;exact Qm3 hi k hk
    ·cases h
  ·have:Qr4 look us acc r=true:=by
    split at h
    ·exact h
    ·split at h
     ·split at h
      ·exact h
      ·cases h
     ·exact h
   exact Qsz this n hn hu x hx k hk
section
variable {E:Env} {look:Nat→Option Blk} {us:List Nat}
theorem QsA(hH:HeapOk E)(hl:∀b,E.H b=look b){c:Cell}{vs:List Value}(hc:QaK E c vs):QaK (QK E us) (fzC look us c) vs:=by
 have hl':∀b x,look b=some x→E.H b=some x:=fun b x h=>(hl b).trans h
 have key:∀{c:Cell} {t:Ty} {l:List (Den t)} {v:Value},(∀n∈c.names,n∈us)→Qar look c=some ⟨t,l⟩→QaK E c [v]→QaK (QK E us) (.ro t l) [v]:=by
  intro c t l v hn h hc;refine⟨v,rfl,?_⟩;exact(Qcj hH hl' h hc).mono (fun g hg=>⟨SU.mono hn hg,rfl⟩) fun _ _ hx=>hx.su
 unfold fzC;split
 ·rename_i b;split
  ·rename_i hb;split
   ·rename_i t l hs;have hc':=hc;obtain⟨v,⟨e,_⟩,_⟩:=hc';subst e;exact key (fun n hn=>by simp[Cell.names] at hn;subst hn;exact QdW hb) hs hc
   ·exact hc.ext (Q8 us)
  ·exact hc.ext (Q8 us)
 ·rename_i b o n;split
  ·rename_i hb;split
   ·rename_i t l hs;have hc':=hc;obtain⟨v,⟨e,_⟩,_⟩:=hc';subst e;exact key (fun n hn=>by simp[Cell.names] at hn;subst hn;exact QdW hb) hs hc
   ·exact hc.ext (Q8 us)
  ·exact hc.ext (Q8 us)
 ·exact hc.ext (Q8 us)
theorem QHC(hH:HeapOk E)(hl:∀b,E.H b=look b):∀{cs:List Cell} {vs:List Value},IR E cs vs→IR (QK E us) (cs.map (fzC look us)) vs
 | [],_,h=>h
 |_::_,_,⟨r,s,e,h1,h2⟩=>⟨r,s,e,QsA hH hl h1,QHC hH hl h2⟩
theorem QsB(hH:HeapOk E)(hl:∀b,E.H b=look b):{x:V1}→{v:Value}→V1R E x v→V1R (QK E us) (fzV look us x) v
 |.c _,_,h=>QsA hH hl h
 |.agg _,_,⟨vals,e,h⟩=>⟨vals,e,QHC hH hl h⟩
theorem QJA(hH:HeapOk E)(hl:∀b,E.H b=look b):∀{xs:List V1} {vs:List Value},VsR E xs vs→VsR (QK E us) (xs.map (fzV look us)) vs
 | [],_,h=>h
 |_::_,_,⟨r,s,e,h1,h2⟩=>⟨r,s,e,QsB hH hl h1,QJA hH hl h2⟩
theorem QBw(hH:HeapOk E)(hl:∀b,E.H b=look b):{x:AV}→{v:Value}→AVR E x v→AVR (QK E us) (fzA look us x) v
 |.dead,_,_=>trivial
 |.one _,_,h=>QsB hH hl h
 |.tup _,_,⟨vs,e,h⟩=>⟨vs,e,QJA hH hl h⟩
theorem Qw9(c:Cell):(fzC look us c).size=c.size:=by
 unfold fzC;split
 ·split
  ·split<;>rfl
  ·rfl
 ·split
  ·split<;>rfl
  ·rfl
 ·rfl
theorem Qlr(x:Blk):shape (fzB look us x)=shape x:=by
 cases x with
 |arr t l=>rfl
 |var cs =>
  simp only[fzB,shape,List.map_map];congr 1;apply List.map_congr_left;intro c _;exact Qw9 c
 |mp _ _ _ _=>rfl
theorem QBx(hH:HeapOk E)(hl:∀b,E.H b=look b){b:Nat}{x:Blk}(hx:Qoc E b x):Qoc (QK E us) b (fzB look us x):=by
 cases x with
 |arr t l =>
  rcases hx with h|⟨g,cs,el,vs,spare,h1,h2,h3,h4⟩
  ·exact .inl h
  ·exact .inr ⟨g,cs,el,vs,spare,h1,h2,h3,h4.mono fun _ _ hx=>hx.su⟩
 |var is =>
  obtain⟨g,cs,el,h1,h2,h3⟩:=hx;exact⟨g,cs,el,h1,h2,QHC hH hl h3⟩
 |mp ka kt vt l=>exact hx
end
def QiI(E:Env)(look:Nat→Option Blk)(us acc:List Nat):Env :=
 { w:=E.w,ρ:=fun i=>(acc[i]?).bind E.ρ,S:=SU E us,H:=fun b=>match (wkH look us acc)[b]? with|some x=>x|none=>none,U:=fun i=>i<acc.length }
theorem Qgb{E:Env}{look:Nat→Option Blk}{us acc:List Nat}{b:Nat}{x:Blk}(h:(QiI E look us acc).H b=some x) :
 ∃n y,acc[b]?=some n∧n∉us∧look n=some y∧x=(fzB look us y).rn (idx acc):=by
 have h:(match (wkH look us acc)[b]? with|some x=>x|none=>none)=some x:=h;unfold wkH at h;rw[List.getElem?_map] at h;cases hb:acc[b]? with
 |none=>rw[hb] at h;cases h
 |some n =>
  rw[hb] at h;simp only[Option.map_some] at h;unfold wkB at h;split at h
  ·cases h
  ·rename_i hn;split at h
   ·rename_i y hy;injection h with h
    exact⟨n,y,rfl,Qga hn,hy,h.symm⟩
   ·cases h
theorem weak{m:Nat}{E0 E:Env}{look:Nat→Option Blk}{us acc:List Nat}(hm:∀b,E0.U b→b<m)(hH:HeapOk E)(hl:∀b,E.H b=look b)(hf:Fr E0 E)
 (c1:QgC m acc=true) (c2:Qr4 look us acc acc=true) :
 HeapOk (QiI E look us acc)∧Fr E0 (QiI E look us acc)∧∀x v,inN acc (fzA look us x).names=true→AVR E x v→AVR (QiI E look us acc) ((fzA look us x).rn (idx acc)) v:=by
 obtain⟨hn,hpre⟩:=Qsy c1;have hk:=Qfm hH us
 have kH:∀n y,n∉us→look n=some y→(QK E us).H n=some y:=fun n y h1 h2=>by
  show(if n∈us then none else E.H n)=some y;rw[if_neg h1,hl,h2]
 have rnat:∀b∈acc,QwY (QK E us) (QiI E look us acc) (idx acc) b:=by
  intro b hb _;have h1:=QdV hn hb;refine⟨(List.getElem?_eq_some_iff.1 h1).1,fun x hx=>?_⟩;obtain⟨n,y,h2,h3,h4,rfl⟩:=Qgb hx;rw[h1] at h2;injection h2 with h2
  subst h2;refine⟨y,kH _ _ h3 h4,by rw[QcE,Qlr],?_⟩;show(acc[idx acc b]?).bind E.ρ=E.ρ b;rw[h1];rfl
 refine⟨⟨fun b x hx=>?_,fun b b' x x' g hx hx' hr hr'=>?_,hk.st⟩,⟨⟨hf.fr.os,hf.fr.tape,hf.fr.output,hf.fr.size,hf.fr.old,fun b x g hx hr=>?_,(Qfn us hf.fr).S⟩,⟨fun g hg=>((hf.ext.trans (Q8 us)).S g hg),fun b hb=>?_,fun b x' hb hx=>?_⟩⟩,fun x v hx hv=>?_⟩
 ·obtain⟨n,y,h1,h2,h3,rfl⟩:=Qgb hx;obtain⟨k1,k2,k3⟩:=hk.blk n y (kH _ _ h2 h3);obtain⟨_,k2',_⟩:=hH.blk n y ((hl n).trans h3)
  have hr:(QiI E look us acc).ρ (idx acc n)=(QK E us).ρ n:=by
   show(acc[idx acc n]?).bind E.ρ=E.ρ n;rw[QdF hn h1,h1];rfl
  have:=Qoc.rn (E:=QK E us) (E':=QiI E look us acc) (f:=idx acc) (i:=n) rfl (.inl fun _ h=>h) (fun j hj=>rnat j (Qsz c2 n (List.mem_of_getElem? h1) h2 y h3 j hj)) hr (QBx hH hl k2');rw[QdF hn h1] at this hr;exact⟨(List.getElem?_eq_some_iff.1 h1).1,this,fun g hg=>k3 g (hr ▸ hg)⟩
 ·obtain⟨n,y,h1,h2,h3,rfl⟩:=Qgb hx;obtain⟨n',y',h1',h2',h3',rfl⟩:=Qgb hx';have e1:E.ρ n=some g:=by have:(acc[b]?).bind E.ρ=some g:=hr;rwa[h1] at this
  have e2:E.ρ n'=some g:=by have:(acc[b']?).bind E.ρ=some g:=hr';rwa[h1'] at this
  have:=hH.inj n n' y y' g ((hl n).trans h3) ((hl n').trans h3') e1 e2;subst this;rw[←QdF hn h1,←QdF hn h1']
 ·obtain⟨n,y,h1,h2,h3,rfl⟩:=Qgb hx;have e1:E.ρ n=some g:=by have:(acc[b]?).bind E.ρ=some g:=hr;rwa[h1] at this
  exact hf.fr.own n y g ((hl n).trans h3) e1
 ·have:=hpre b (hm b hb);exact(List.getElem?_eq_some_iff.1 this).1
 ·have h0:=hpre b (hm b hb);obtain⟨n,y,h1,h2,h3,rfl⟩:=Qgb hx;rw[h0] at h1;injection h1 with h1
  subst h1;obtain⟨x,e1,e2,e3,e4⟩:=(hf.ext.trans (Q8 us)).H b y hb (kH _ _ h2 h3);refine⟨x,e1,?_,by rw[QcE,Qlr,e3],e4⟩;show(acc[b]?).bind E.ρ=E0.ρ b;rw[h0];exact e2
 ·exact AVR.rn (E:=QK E us) (E':=QiI E look us acc) rfl (.inl fun _ h=>h) (fun i hi=>rnat i (Qm3 hx i hi)) (QBw hH hl hv)
def leV(look:Nat→Option Blk)(us acc:List Nat)(x y:AV):Prop:=match y with
 |.dead=>True
 |y=>inN acc (fzA look us x).names=true∧(fzA look us x).rn (idx acc)=y
def leT(look:Nat→Option Blk)(us acc:List Nat):List AV→List AV→Prop
 | [],[]=>True
 |x::xs,y::ys=>leV look us acc x y∧leT look us acc xs ys
 |_,_=>False
theorem QzP{look:Nat→Option Blk}{us acc:List Nat}:∀{xs ys:List AV},leT look us acc xs ys→xs.length=ys.length∧∀(i:Nat) y,ys[i]?=some y→∃x,xs[i]?=some x∧leV look us acc x y
 | [],[],_=>⟨rfl,fun i y h=>by simp at h⟩
 |x::xs,y::ys,⟨h1,h2⟩=>by
  obtain⟨h3,h4⟩:=QzP h2;refine⟨by simp[h3],fun i z hz=>?_⟩;cases i with
  |zero=>simp at hz;subst hz;exact⟨x,rfl,h1⟩
  |succ i=>exact h4 i z (by simpa using hz)
 | [],_::_,h=>h.elim
 |_::_,[],h=>h.elim
theorem QBy{E E':Env}{look:Nat→Option Blk}{us acc:List Nat}{x y:AV}{v:Value}(h:leV look us acc x y)(hh:inN acc (fzA look us x).names=true→AVR E' ((fzA look us x).rn (idx acc)) v):AVR E' y v:=by
 cases y with
 |dead=>trivial
 |one _=>obtain⟨h1,h2⟩:=h;rw[←h2];exact hh h1
 |tup _=>obtain⟨h1,h2⟩:=h;rw[←h2];exact hh h1
theorem Le.mk{m:Nat}{st st':St}(us acc:List Nat)(c1:QgC m acc=true)(c2:Qr4 st.look us acc acc=true)(hh:wkH st.look us acc=st'.heap)(ht:leT st.look us acc st.tmps st'.tmps):Le m st st':=by
 intro E0 E a hm hs hf;obtain⟨h1,h2,h3⟩:=weak hm hs.ok hs.H hf c1 c2;obtain⟨h4,h5⟩:=QzP ht;refine⟨QiI E st.look us acc,rfl,⟨hs.defers,hs.len.trans h4,fun i y hy=>?_,h1,fun b=>?_,fun b hb=>?_⟩,h2⟩
 ·obtain⟨x,hx,hxy⟩:=h5 i y hy;obtain⟨v,hv1,hv2⟩:=hs.tmp i x hx;exact⟨v,hv1,QBy (E:=E) hxy fun hi=>h3 x v hi hv2⟩
 ·show(match (wkH st.look us acc)[b]? with|some x=>x|none=>none)=st'.look b;rw[hh];rfl
 ·rw[←hh];have hb:b<acc.length:=hb;simpa[wkH] using hb
end Go.Fw

