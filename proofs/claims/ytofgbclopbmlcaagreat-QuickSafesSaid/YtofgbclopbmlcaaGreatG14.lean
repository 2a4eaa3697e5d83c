/- Part 14 of the proof. Conditions: none. -/
import Derived.Test.YtofgbclopbmlcaaGreatG13
namespace Go.Fw
set_option linter.unusedVariables false
set_option linter.unusedSimpArgs false
structure Stp where
 i:Nat
 dst:Option Tmp
 nm:Nat
 r:Res
def Stp.ovT(n:Nat)(t:Tmp)(s:Stp):Option AV:=match s.dst with
 |some d=>if d=t∧t<n then some s.r.val else none
 |none=>none
def ovS:List (Nat×Option Blk)→Nat→Option (Option Blk)
 | [],_=>none
 |(n,o)::r,b=>match ovS r b with
  |some x=>some x
  |none=>if b=n then some o else none
def Stp.ovH(b:Nat)(s:Stp):Option (Option Blk):=if s.nm≤b∧b<s.nm+s.r.add.length then some s.r.add[b-s.nm]? else ovS s.r.set b
theorem QsG:∀(l:List (Nat×Option Blk)) (H:Nat→Option Blk) (b:Nat),Qf5 H l b=(ovS l b).getD (H b)
 | [],H,b=>rfl
 |(n,o)::r,H,b=>by
  rw[Qf5,QsG r,ovS];cases ovS r b with
  |some x=>rfl
  |none =>
   simp only[Option.getD];by_cases h:b=n
   ·simp[h]
   ·simp[h]
theorem Qhz:∀{l:List (Nat×Option Blk)} {b:Nat} {x:Option Blk},ovS l b=some x→∃o,(b,o)∈l
 |(n,o)::r,b,x,h=>by
  unfold ovS at h;split at h
  ·rename_i y hy;obtain⟨o',ho⟩:=Qhz hy;exact⟨o',by simp[ho]⟩
  ·split at h
   ·rename_i hb;subst hb;exact⟨o,by simp⟩
   ·cases h
theorem Qlx(st:St)(s:Stp)(v:AV)(b:Nat):((st.act s.nm s.r).put s.dst v).look b=(s.ovH b).getD (st.look b):=by
 have h:((st.act s.nm s.r).put s.dst v).look b=(st.act s.nm s.r).look b:=by cases s.dst<;>rfl
 rw[h,Qov,QjM];unfold Stp.ovH;split
 ·rfl
 ·exact QsG _ _ _
theorem QoE(st:St)(s:Stp)(t:Tmp):((st.act s.nm s.r).put s.dst s.r.val).tmp t=(s.ovT st.tmps.length t).getD (st.tmp t):=by
 unfold Stp.ovT;cases s.dst with
 |none=>rfl
 |some d =>
  show(st.tmps.set d s.r.val).getD t .dead=_;simp only[List.getD_eq_getElem?_getD,List.getElem?_set];by_cases hd:d=t
  ·subst hd;by_cases hl:d<st.tmps.length
   ·simp[hl]
   ·simp[hl,St.tmp]
  ·simp[hd,St.tmp]
theorem Qj0(st:St)(s:Stp)(v:AV):((st.act s.nm s.r).put s.dst v).tmps.length=st.tmps.length:=by
 cases hd:s.dst with
 |none=>rfl
 |some d=>simp[St.put,St.act]
theorem Qly(st:St)(s:Stp)(v:AV):st.heap.length≤((st.act s.nm s.r).put s.dst v).heap.length∧(0<s.r.add.length→s.nm+s.r.add.length≤((st.act s.nm s.r).put s.dst v).heap.length):=by
 have h:((st.act s.nm s.r).put s.dst v).heap=QeJ (QdS st.heap s.r.set) s.nm s.r.add:=by cases s.dst<;>rfl
 rw[h];obtain⟨h1,h2⟩:=Qei s.r.add (QdS st.heap s.r.set) s.nm;have:=Qf9 s.r.set st.heap;exact⟨by omega,h2⟩
def QdX{α:Type}(ov:Stp→Option α)(p:Nat→Bool):List Stp→α→α
 | [],x=>x
 |s::r,x=>QdX ov p r (if p s.i then (ov s).getD x else x)
theorem Qej{α:Type}{ov:Stp→Option α}{p q:Nat→Bool}:∀{l:List Stp} {x:α},(∀s∈l,p s.i≠q s.i→ov s=none)→QdX ov p l x=QdX ov q l x
 | [],_,_=>rfl
 |s::r,x,h=>by
  unfold QdX
  have:(if p s.i then (ov s).getD x else x)=(if q s.i then (ov s).getD x else x):=by
   by_cases he:p s.i=q s.i
   ·rw[he]
   ·rw[h s (by simp) he];simp
  rw[this];exact Qej fun s' hs=>h s' (by simp[hs])
theorem Qcd{α:Type}{ov:Stp→Option α}{p:Nat→Bool}:∀{l:List Stp} {x:α},(∀s∈l,p s.i=true→ov s=none)→QdX ov p l x=x
 | [],_,_=>rfl
 |s::r,x,h=>by
  unfold QdX
  have:(if p s.i then (ov s).getD x else x)=x:=by
   split
   ·rw[h s (by simp) ‹_›];rfl
   ·rfl
  rw[this];exact Qcd fun s' hs=>h s' (by simp[hs])
theorem QhA{α:Type}{ov:Stp→Option α}{p p':Nat→Bool}{s0:Stp}(hp0:p s0.i=false)(hp0':p' s0.i=true)(hp':∀k,k≠s0.i→p' k=p k):∀{l:List Stp} {x:α},s0∈l→l.Pairwise (fun a b=>a.i<b.i) →
 (∀s∈l,s0.i<s.i→p s.i=true→ov s0=none∨ov s=none)→QdX ov p' l x=(ov s0).getD (QdX ov p l x)
 | [],_,hm,_,_=>by cases hm
 |s::r,x,hm,hw,h=>by
  obtain⟨hw1,hw2⟩:=List.pairwise_cons.1 hw;unfold QdX;rcases List.mem_cons.1 hm with rfl|hm
  ·rw[hp0,hp0'];simp only[if_true,Bool.false_eq_true,if_false];have e:∀y,QdX ov p' r y=QdX ov p r y:=fun y=>Qej fun s hs hne=>absurd (hp' s.i (by have:=hw1 s hs;omega)) hne
   rw[e];cases ho:ov s0 with
   |none=>rfl
   |some y =>
    simp only[Option.getD];exact Qcd fun s hs hps=>(h s (by simp[hs]) (hw1 s hs) hps).resolve_left (by rw[ho];simp)
  ·have hlt:=hw1 s0 hm;rw[hp' s.i (by omega)];exact QhA hp0 hp0' hp' hm hw2 fun s' hs=>h s' (by simp[hs])
section
variable (T:Tab) (ops:Array Oper) (As:List (List Bool)) (efs:List W1)
def Anc(i k:Nat):Prop:=QdO (Qcn As i) k=true
structure Fact(prev:List Stp)(st:St)(o:Oper)(s:Stp):Prop where
 dst:s.dst=o.dst
 nm:st.heap.length≤s.nm
 lt:∀k,Anc As s.i k→k<s.i
 seen:∀(k:Nat) o' d,k<s.i→ops[k]?=some o'→o'.dst=some d→o.dst=some d→Anc As s.i k∨Anc As k s.i
 views:∃(ht:Tmp→Bool) (hb:Nat→Bool),
  (∀t,ht t=false→∀(k:Nat) o',ops[k]?=some o'→o'.dst=some t→k≠s.i→Anc As s.i k∨Anc As k s.i) ∧
  (∀b,hb b=false→(∀k,QwJ (Qr5 efs k) b=true→k≠s.i→Anc As s.i k∨Anc As k s.i)∧∀s'∈prev,s'.nm≤b→b<s'.nm+s'.r.add.length→Anc As s.i s'.i) ∧
  (∀n x,(n,x)∈s.r.set→∃y,QcG st hb n=some y) ∧
  (∀n x,(n,x)∈s.r.set→QwJ (Qr5 efs s.i) n=true) ∧
  (((Qav ops o=some none∨∃d want,Qav ops o=some (some (d,want))∧ht d=false∧st.tmp d=.cell (bv want)) ∧
      dstep T (Qhu st ht) (QcG st hb) s.nm o=some s.r∧(∀q,s.r.pre=some q→q)) ∨
    (∃d want,Qav ops o=some (some (d,want))∧ht d=false∧(st.tmp d=.cell (bv (!want))∨st.tmp d=.tup [])∧s.r={ pre:=none,val:=.tup [],add:=[],set:=[] }))
inductive Run:Nat→List Stp→List Oper→St→List Stp→St→Prop where
 |nil {c prev st}:Run c prev [] st [] st
 |cons {c prev st o l s rest st'}:s.i=c→Fact T ops As efs prev st o s→Run (c+1) (prev++[s]) l ((st.act s.nm s.r).put s.dst s.r.val) rest st'→Run c prev (o::l) st (s::rest) st'
end
section
variable {T:Tab} {ops:Array Oper} {As:List (List Bool)} {efs:List W1}
theorem QoF{st:St}{d:Tmp}{v:AV}(h:st.tmp d=v):st.put (some d) v=st:=by
 show{ st with tmps:=st.tmps.set d v }=st
 have:st.tmps.set d v=st.tmps:=by
  apply List.ext_getElem?;intro i;rw[List.getElem?_set];by_cases hd:d=i
  ·subst hd;by_cases hl:d<st.tmps.length
   ·simp[hl];rw[←h];simp[St.tmp,hl]
   ·simp[hl]
  ·simp[hd]
 rw[this]
theorem Qm8:∀(l:List Oper) (c:Nat) (is:List Nat) (own:List (Nat×Nat×Nat)) (prev:List Stp) {st:St} {K:St→Prop},
 ops.toList.drop c=l→(∀(j n:Nat),is[j]?=some n→n=c+j)→(∀s∈prev,s.r.add≠[]→(s.i,s.nm,s.r.add.length)∈own)→exM T ops As efs l is own st K →
 ∃rs st',Run T ops As efs c prev l st rs st'∧K st'
 | [],c,is,own,prev,st,K,_,_,_,h=>⟨[],st,.nil,h⟩
 |o::l,c,[],own,prev,st,K,_,_,_,h=>h.elim
 |o::l,c,i::is,own,prev,st,K,hd,hi,ho,h=>by
  have hc:i=c:=by simpa using hi 0 i rfl
  subst hc;have hi':∀(j n:Nat),is[j]?=some n→n=i+1+j:=fun j n hn=>by have:=hi (j+1) n (by simpa using hn);omega
  have hd':ops.toList.drop (i+1)=l:=by
   have:=congrArg (List.drop 1) hd;simpa using this
  unfold exM at h;split at h
  ·exact h.elim
  ·rename_i hchk;rw[Bool.and_eq_true] at hchk;obtain⟨hle,hseen⟩:=hchk;rw[QsE] at h;generalize hinc:QqK i efs As (Qcn As i) lits=inc at h;have lt:∀k,Anc As i k→k<i:=fun k hk=>QoD hle hk
   have seen:∀(k:Nat) o' d,k<i→ops[k]?=some o'→o'.dst=some d→o.dst=some d→Anc As i k∨Anc As k i:=by
    intro k o' d hk hko hd1 hd2;unfold Qm5 at hseen;rw[hd2] at hseen;simp only at hseen;split at hseen
    ·cases hseen
    ·rename_i hf;exact QjX (c:=0) (fun j n h=>QjZ j n h) hf k o' (by rw[List.getElem?_take,if_pos hk,Array.getElem?_toList];exact hko) hd1 (by omega)
   have v1:∀t,QbZ i t ops.toList As (Qcn As i) lits=false→∀(k:Nat) o',ops[k]?=some o'→o'.dst=some t→k≠i→Anc As i k∨Anc As k i:=by
    intro t ht k o' hk hd1 hne;exact QjX (c:=0) (fun j n h=>QjZ j n h) ht k o' (by rw[Array.getElem?_toList];exact hk) hd1 (by omega)
   have v2:∀b,QgL inc (Qcn As i) b own=false→(∀k,QwJ (Qr5 efs k) b=true→k≠i→Anc As i k∨Anc As k i)∧∀s'∈prev,s'.nm≤b→b<s'.nm+s'.r.add.length→Anc As i s'.i:=by
    intro b hb;obtain⟨h1,h2⟩:=QjY hb;refine⟨fun k hk hne=>QsF (c:=0) (fun j n h=>QjZ j n h) (by rw[hinc];exact h1) k hk (by omega),fun s' hs h3 h4=>h2 _ _ _ (ho s' hs ?_) h3 h4⟩;intro e;rw[e] at h4;simp at h4;omega
   have do_:∀{st:St},(Qav ops o=some none∨∃d want,Qav ops o=some (some (d,want))∧QbZ i d ops.toList As (Qcn As i) lits=false∧st.tmp d=.cell (bv want)) →
    (Qau lits st.heap st.heap.length fun nm=>doM T o (fun t=>QbZ i t ops.toList As (Qcn As i) lits) (fun b=>QgL inc (Qcn As i) b own) (Qr5 efs i) nm st fun st' add=>exM T ops As efs l is (Qfs own i nm add) st' K) →
    ∃rs st',Run T ops As efs i prev (o::l) st rs st'∧K st':=by
    intro st hg h;obtain⟨nm,hnm,h⟩:=named h;unfold doM at h;split at h
    ·rename_i r hr;obtain⟨hp,h⟩:=Qow h;rw[Qsj] at h;split at h
     ·rename_i hs;rw[Bool.and_eq_true] at hs;rw[Qbd] at h
      obtain⟨rs,st',h1,h2⟩:=Qm8 l (i+1) is (Qfs own i nm r.add) (prev++[{ i:=i,dst:=o.dst,nm:=nm,r:=r }]) hd' hi' (fun s hs hne=>by
       rcases List.mem_append.1 hs with hs|hs
       ·have:=ho s hs hne;cases r.add with
        |nil=>exact this
        |cons _ _=>exact List.mem_cons_of_mem _ this
       ·simp at hs;subst hs;simp only at hne ⊢;cases hra:r.add with
        |nil=>exact absurd hra hne
        |cons x y=>simp[Qfs]) h
      exact⟨_,st',.cons rfl ⟨rfl,hnm,lt,seen,_,_,v1,v2,fun n x hx=>Qhy hs.1 n x hx,fun n x hx=>Qlw hs.2 n x hx,.inl ⟨hg,hr,hp⟩⟩ h1,h2⟩
     ·exact h.elim
    ·exact h.elim
   have skip_:∀{st:St} {d:Tmp} {want:Bool},Qav ops o=some (some (d,want))→QbZ i d ops.toList As (Qcn As i) lits=false→(st.tmp d=.cell (bv (!want))∨st.tmp d=.tup [])→exM T ops As efs l is own (st.put o.dst (.tup [])) K →
    ∃rs st',Run T ops As efs i prev (o::l) st rs st'∧K st':=by
    intro st d want hg hh ht h
    obtain⟨rs,st',h1,h2⟩:=Qm8 l (i+1) is own (prev++[{ i:=i,dst:=o.dst,nm:=st.heap.length,r:={ pre:=none,val:=.tup [],add:=[],set:=[] } }]) hd' hi' (fun s hs hne=>by
     rcases List.mem_append.1 hs with hs|hs
     ·exact ho s hs hne
     ·simp at hs;subst hs;simp at hne) h
    exact⟨_,st',.cons rfl ⟨rfl,Nat.le_refl _,lt,seen,_,_,v1,v2,fun n x hx=>(by cases hx),fun n x hx=>(by cases hx),.inr ⟨d,want,hg,hh,ht,rfl⟩⟩ h1,h2⟩
   split at h
   ·exact h.elim
   ·rename_i hg;exact do_ (.inl hg) h
   ·rename_i d want hg;split at h
    ·rename_i b hb
     have hvis:QbZ i d ops.toList As (Qcn As i) lits=false∧st.tmp d=.cell (bv b):=by
      unfold Qhu at hb;simp only at hb;split at hb
      ·cases hb
      ·exact⟨‹_›,hb⟩
     cases b with
     |true =>
      simp only[Br] at h;rw[Qbd,QoF hvis.2] at h;cases want with
      |true=>exact do_ (.inr ⟨d,true,hg,hvis.1,hvis.2⟩) h
      |false=>simp only[Qbd] at h;exact skip_ hg hvis.1 (.inl hvis.2) h
     |false =>
      simp only[Br] at h;rw[Qbd,QoF hvis.2] at h;cases want with
      |false=>exact do_ (.inr ⟨d,false,hg,hvis.1,hvis.2⟩) h
      |true=>simp only[Qbd] at h;exact skip_ hg hvis.1 (.inl hvis.2) h
    ·rename_i hb
     have hvis:QbZ i d ops.toList As (Qcn As i) lits=false∧st.tmp d=.tup []:=by
      unfold Qhu at hb;simp only at hb;split at hb
      ·cases hb
      ·exact⟨‹_›,hb⟩
     rw[Qbd] at h;exact skip_ hg hvis.1 (.inr hvis.2) h
    ·exact h.elim
theorem Run.idx:∀{c:Nat} {prev:List Stp} {l:List Oper} {st:St} {rs:List Stp} {st':St},Run T ops As efs c prev l st rs st'→rs.length=l.length∧(∀(j:Nat) s,rs[j]?=some s→s.i=c+j)∧rs.Pairwise (fun a b=>a.i<b.i)∧∀s∈rs,c≤s.i:=by
 intro c prev l st rs st' h
 induction h with
 |nil=>exact⟨rfl,fun j s h=>by simp at h,List.Pairwise.nil,fun s h=>by cases h⟩
 |cons hi hf _ ih =>
  obtain⟨h1,h2,h3,h4⟩:=ih;refine⟨by simp[h1],fun j s hj=>?_,List.pairwise_cons.2 ⟨fun s hs=>by have:=h4 s hs;omega,h3⟩,fun s hs=>?_⟩
  ·cases j with
   |zero=>simp at hj;subst hj;simpa using hi
   |succ j=>have:=h2 j s (by simpa using hj);omega
  ·rcases List.mem_cons.1 hs with rfl|hs
   ·omega
   ·have:=h4 s hs;omega
structure AtJ(st:St)(rs:List Stp)(c:Nat)(sti:St):Prop where
 tmp:∀t,sti.tmp t=QdX (Stp.ovT st.tmps.length t) (fun k=>decide (k<c)) rs (st.tmp t)
 look:∀b,sti.look b=QdX (Stp.ovH b) (fun k=>decide (k<c)) rs (st.look b)
 len:sti.tmps.length=st.tmps.length
 heap:st.heap.length≤sti.heap.length
 add:∀s∈rs,s.i<c→0<s.r.add.length→s.nm+s.r.add.length≤sti.heap.length
 later:∀s∈rs,c≤s.i→sti.heap.length≤s.nm
theorem Run.nmge:∀{c:Nat} {prev:List Stp} {l:List Oper} {st:St} {rs:List Stp} {st':St},Run T ops As efs c prev l st rs st'→∀s∈rs,st.heap.length≤s.nm:=by
 intro c prev l st rs st' hrun
 induction hrun with
 |nil=>intro s h;cases h
 | @cons c prev stx o l s rest st' hi hfx hr ih =>
   intro s2 h2;rcases List.mem_cons.1 h2 with rfl|h2
   ·exact hfx.nm
   ·have:=ih s2 h2;have:=(Qly stx s s.r.val).1;omega
theorem Run.at_:∀{c:Nat} {prev:List Stp} {l:List Oper} {st:St} {rs:List Stp} {st':St},Run T ops As efs c prev l st rs st' →
 (∀(j:Nat) s,rs[j]?=some s→∃o sti,l[j]?=some o∧Fact T ops As efs (prev++rs.take j) sti o s∧AtJ st rs (c+j) sti)∧AtJ st rs (c+l.length) st':=by
 intro c prev l st rs st' h
 induction h with
 |nil=>exact⟨fun j s h=>by simp at h,⟨fun _=>rfl,fun _=>rfl,rfl,Nat.le_refl _,fun s h=>(by cases h),fun s h=>(by cases h)⟩⟩
 | @cons c prev st o l s rest st' hi hf hr ih =>
   obtain⟨h1,h2⟩:=ih;obtain⟨_,_,_,hge⟩:=hr.idx
   have up:∀{j:Nat} {sti:St},AtJ ((st.act s.nm s.r).put s.dst s.r.val) rest (c+1+j) sti→AtJ st (s::rest) (c+(j+1)) sti:=by
    intro j sti h;have e:c+(j+1)=c+1+j:=by omega
    rw[e];have hlt:decide (s.i<c+1+j)=true:=by simp;omega
    obtain⟨g1,g2⟩:=Qly st s s.r.val;refine⟨fun t=>?_,fun b=>?_,by rw[h.len,Qj0],by have:=h.heap;omega,fun s' hs' hlt' hpos=>?_,fun s' hs' hge'=>?_⟩
    ·rw[h.tmp,QoE,Qj0];show _=QdX _ _ rest (if decide (s.i<c+1+j) then _ else _);rw[hlt];rfl
    ·rw[h.look,Qlx];show _=QdX _ _ rest (if decide (s.i<c+1+j) then _ else _);rw[hlt];rfl
    ·rcases List.mem_cons.1 hs' with rfl|hs'
     ·have:=g2 hpos;have:=h.heap;omega
     ·exact h.add s' hs' hlt' hpos
    ·rcases List.mem_cons.1 hs' with rfl|hs'
     ·omega
     ·exact h.later s' hs' hge'
   refine⟨fun j s' hj=>?_,?_⟩
   ·cases j with
    |zero =>
     simp at hj;subst hj
     have hno:∀s'∈(s::rest),decide (s'.i<c+0)=true→False:=by
      intro s' hs' hlt;simp at hlt;rcases List.mem_cons.1 hs' with rfl|hs'
      ·omega
      ·have:=hge s' hs';omega
     refine⟨o,st,rfl,by simpa using hf,⟨fun t=>?_,fun b=>?_,rfl,Nat.le_refl _,fun s' hs' hlt=>absurd (by simpa using hlt) (hno s' hs'),fun s' hs' _=>(Run.cons hi hf hr).nmge s' hs'⟩⟩
     ·exact(Qcd fun s' hs' hlt=>(hno s' hs' hlt).elim).symm
     ·exact(Qcd fun s' hs' hlt=>(hno s' hs' hlt).elim).symm
    |succ j =>
     obtain⟨o',sti,g1,g2,g3⟩:=h1 j s' (by simpa using hj);exact⟨o',sti,by simpa using g1,by simpa using g2,up g3⟩
   ·have:=up h2;simpa using this
end
theorem Sim.congr{st st':St}{E:Env}{a:Act}(h:Sim st E a)(hl:st'.tmps.length=st.tmps.length)(ht:∀t,st'.tmp t=st.tmp t)(hb:∀b,st'.look b=st.look b)(hU:∀b,E.U b→b<st'.heap.length):Sim st' E a:=by
 refine⟨h.defers,h.len.trans hl.symm,fun i x hx=>?_,h.ok,fun b=>(h.H b).trans (hb b).symm,hU⟩;have hi:i<st'.tmps.length:=(List.getElem?_eq_some_iff.1 hx).1;have h1:=ht i;unfold St.tmp at h1;rw[List.getD_eq_getElem?_getD,List.getD_eq_getElem?_getD,hx] at h1;have h2:st.tmps[i]?=some st.tmps[i]:=List.getElem?_eq_getElem (by omega);rw[h2] at h1;simp at h1;subst h1;exact h.tmp i _ h2
def Qxd(E:Env):Env:={ E with w:={ E.w with drawn:=E.w.drawn+1 } }
theorem QhB(E:Env):Ext E (Qxd E):=⟨fun g h=>⟨h,rfl⟩,fun _ h=>h,fun b x' _ h=>⟨x',h,rfl,rfl,fun g cs el _ h=>⟨cs,h,rfl⟩⟩⟩
theorem Sim.draw{st:St}{E:Env}{a:Act}(h:Sim st E a):Sim st (Qxd E) a:=by
 refine⟨h.defers,h.len,fun i x hx=>?_,⟨fun b x hx=>?_,h.ok.inj,h.ok.st⟩,h.H,h.U⟩
 ·obtain⟨v,h1,h2⟩:=h.tmp i x hx;exact⟨v,h1,h2.ext (QhB E)⟩
 ·obtain⟨h1,h2,h3⟩:=h.ok.blk b x hx;exact⟨h1,h2.ext (QhB E) rfl fun _ _=>rfl,h3⟩
theorem Fr.draw{E0 E:Env}(h:Fr E0 E):Fr E0 (Qxd E) :=
 ⟨⟨h.fr.os,h.fr.tape,h.fr.output,h.fr.size,h.fr.old,h.fr.own,h.fr.S⟩,h.ext.trans (QhB E)⟩
section
variable {P:Program} {T:Tab} {ops:Array Oper} {As:List (List Bool)} {efs:List W1}
structure Inv(As:List (List Bool))(st:St)(rs:List Stp)(E0:Env)(D:Nat→Bool)(a:Act)(w:World):Prop where
 ex:∃st' E,E.w=w∧Sim st' E a∧Fr E0 E∧st'.tmps.length=st.tmps.length∧(∀t,st'.tmp t=QdX (Stp.ovT st.tmps.length t) D rs (st.tmp t)) ∧
  (∀b,st'.look b=QdX (Stp.ovH b) D rs (st.look b))∧(∀b,E.U b→b<st.heap.length∨∃s∈rs,D s.i=true∧s.nm≤b∧b<s.nm+s.r.add.length)
 closed:∀k j,D k=true→Anc As k j→D j=true
theorem Inv.step(hT:TabOk P T)(hP:Q9 P T){st stn:St}{rs:List Stp}{E0:Env}{D:Nat→Bool}{a:Act}{w:World}{i:Nat}{K:Act→World→Prop}{Q:Exit→Act→World→Prop}
 (hr:Run T ops As efs 0 [] ops.toList st rs stn) (hi:i<ops.size) (hD:D i=false) (hdep:∀j,Anc As i j→D j=true) (h:Inv As st rs E0 D a w)
 (hK:∀a' w',Inv As st rs E0 (fun k=>D k||Nat.beq k i) a' w'→K a' w'):wpOp P ops Q i K a w:=by
 obtain⟨⟨st',E,rfl,hs,hf,hlen,htm,hlk,hU⟩,hcl⟩:=h;obtain⟨hrl,hidx,hpw,_⟩:=hr.idx;obtain⟨hat,_⟩:=hr.at_;have hi':i<rs.length:=by rw[hrl];simpa using hi
 have hsi:rs[i]?=some rs[i]:=List.getElem?_eq_getElem hi';generalize rs[i]=s at hsi;have hsm:s∈rs:=List.mem_of_getElem? hsi;obtain⟨o,sti,ho,hfact,hst⟩:=hat i s hsi;have e0:s.i=i:=by have:=hidx i s hsi;omega
 simp only[Nat.zero_add] at hst;simp only[List.nil_append] at hfact;have hoi:ops[i]?=some o:=by rw[←Array.getElem?_toList];exact ho
 have step:∀s'∈rs,∃o' sti',ops[s'.i]?=some o'∧Fact T ops As efs (rs.take s'.i) sti' o' s'∧AtJ st rs s'.i sti':=by
  intro s' hs';obtain⟨j,hj⟩:=List.mem_iff_getElem?.1 hs';obtain⟨o',sti',g1,g2,g3⟩:=hat j s' hj;have e:s'.i=j:=by have:=hidx j s' hj;omega
  rw[e];exact⟨o',sti',by rw[←Array.getElem?_toList];exact g1,by simpa using g2,by simpa using g3⟩
 have before:∀s1∈rs,∀s2∈rs,s1.i<s2.i→0<s1.r.add.length→s1.nm+s1.r.add.length≤s2.nm:=by
  intro s1 h1 s2 h2 hlt hpos;obtain⟨_,sti',_,g2,g3⟩:=step s2 h2;have:=g3.add s1 h1 hlt hpos;have:=g2.nm;omega
 have inTake:∀s1∈rs,s1.i<i→s1∈rs.take i:=by
  intro s1 h1 hlt;obtain⟨j,hj⟩:=List.mem_iff_getElem?.1 h1;have e:s1.i=j:=by have:=hidx j s1 hj;omega
  exact List.mem_of_getElem? (i:=j) (by rw[List.getElem?_take,if_pos (by omega)];exact hj)
 obtain⟨ht,hb,v1,v2,v3,v4,hact⟩:=hfact.views;rw[e0] at v1 v2 v4
 have same:∀s1∈rs,s1.i=i→s1=s:=by
  intro s1 h1 he;obtain⟨j,hj⟩:=List.mem_iff_getElem?.1 h1;have e:s1.i=j:=by have:=hidx j s1 hj;omega
  have:j=i:=by omega
  subst this;rw[hj] at hsi;injection hsi
 have viewT:∀t,ht t=false→st'.tmp t=sti.tmp t:=by
  intro t h1;rw[htm,hst.tmp];refine Qej fun s1 hs1 hne=>?_
  obtain⟨o1,_,g1,g2,_⟩:=step s1 hs1;cases ho1:s1.ovT st.tmps.length t with
  |none=>rfl
  |some y =>
   exfalso
   have hd1:o1.dst=some t:=by
    rw[←g2.dst];unfold Stp.ovT at ho1;cases hd:s1.dst with
    |none=>rw[hd] at ho1;cases ho1
    |some d =>
     rw[hd] at ho1;simp only at ho1;split at ho1
     ·rename_i hc;rw[hc.1]
     ·cases ho1
   by_cases he:s1.i=i
   ·rw[he] at hne;exact hne (by rw[hD];simp)
   ·rcases v1 t h1 s1.i o1 g1 hd1 he with hanc|hanc
    ·have h2:=hdep _ hanc;have h3:=hfact.lt _ (e0 ▸ hanc);exact hne (by rw[h2];simp;omega)
    ·have h3:=g2.lt _ hanc;cases hds:D s1.i with
     |true=>have:=hcl _ _ hds hanc;rw[hD] at this;cases this
     |false=>exact hne (by rw[hds];simp;omega)
 have viewB:∀b x,QcG sti hb b=some x→st'.look b=some x:=by
  intro b x hx;unfold QcG at hx;cases hbb:hb b with
  |true=>rw[hbb] at hx;cases hx
  |false =>
   rw[hbb] at hx;simp only at hx
   have hblt:b<sti.heap.length:=by
    rcases Nat.lt_or_ge b sti.heap.length with h|h
    ·exact h
    ·unfold St.look at hx;rw[List.getElem?_eq_none h] at hx;cases hx
   rw[←hx,hlk,hst.look];obtain⟨w1,w2⟩:=v2 b hbb;refine Qej fun s1 hs1 hne=>?_
   obtain⟨o1,sti1,g1,g2,g3⟩:=step s1 hs1;by_cases he:s1.i=i
   ·exact absurd (by rw[he,hD];simp) hne
   cases ho1:s1.ovH b with
   |none=>rfl
   |some y =>
    exfalso;unfold Stp.ovH at ho1;split at ho1
    ·rename_i hrng;rcases Nat.lt_or_ge s1.i i with hlt|hge
     ·have hanc:=w2 s1 (inTake s1 hs1 hlt) hrng.1 hrng.2;exact hne (by rw[hdep _ hanc];simp[hlt])
     ·have:=hst.later s1 hs1 hge;omega
    ·rename_i hrng;obtain⟨oo,hoo⟩:=Qhz ho1;obtain⟨_,_,_,_,_,u4,_⟩:=g2.views;rcases w1 s1.i (u4 _ _ hoo) he with hanc|hanc
     ·have h3:=hfact.lt _ (e0 ▸ hanc);exact hne (by rw[hdep _ hanc];simp;omega)
     ·have h3:=g2.lt _ hanc;cases hds:D s1.i with
      |true=>have:=hcl _ _ hds hanc;rw[hD] at this;cases this
      |false=>exact hne (by rw[hds];simp;omega)
 have hev:∀x,AVR E (Qhu sti ht x) (a.eval x):=by
  intro x;cases x with
  |tmp t =>
   show AVR E (match ht t with|true=>.dead|false=>sti.tmp t) _;cases h1:ht t with
   |true=>trivial
   |false=>rw[←viewT t h1];exact hs.at_ t
  |const v=>exact hs.eval (.const v)
  |func f=>exact hs.eval (.func f)
  |global g=>trivial
 have apart:∀s1∈rs,i<s1.i→D s1.i=true→∃o1 sti1,ops[s1.i]?=some o1∧Fact T ops As efs (rs.take s1.i) sti1 o1 s1∧¬Anc As s1.i i:=by
  intro s1 hs1 hlt hd1;obtain⟨o1,sti1,g1,g2,_⟩:=step s1 hs1;exact⟨o1,sti1,g1,g2,fun hanc=>by have:=hcl _ _ hd1 hanc;rw[hD] at this;cases this⟩
 have dT:∀t,∀s1∈rs,s.i<s1.i→D s1.i=true→s.ovT st.tmps.length t=none∨s1.ovT st.tmps.length t=none:=by
  intro t s1 hs1 hlt hd1;rw[e0] at hlt;obtain⟨o1,sti1,g1,g2,hna⟩:=apart s1 hs1 hlt hd1;unfold Stp.ovT;cases hd:s.dst with
  |none=>exact .inl rfl
  |some d =>
   cases hd':s1.dst with
   |none=>exact .inr rfl
   |some d' =>
    by_cases h1:d=t
    ·by_cases h2:d'=t
     ·exfalso;rcases g2.seen i o d hlt hoi (by rw[←hfact.dst];exact hd) (by rw[←g2.dst,hd',h1,h2]) with hanc|hanc
      ·exact hna hanc
      ·have:=hfact.lt _ (e0 ▸ hanc);omega
     ·exact .inr (by simp[h2])
    ·exact .inl (by simp[h1])
 have dB:∀b,∀s1∈rs,s.i<s1.i→D s1.i=true→s.ovH b=none∨s1.ovH b=none:=by
  intro b s1 hs1 hlt hd1;rw[e0] at hlt;obtain⟨o1,sti1,g1,g2,hna⟩:=apart s1 hs1 hlt hd1;obtain⟨ht1,hb1,_,u2,u3,u4,_⟩:=g2.views;cases hx:s.ovH b with
  |none=>exact .inl rfl
  |some y =>
   cases hx1:s1.ovH b with
   |none=>exact .inr rfl
   |some y1 =>
    exfalso
    have see:∀{stz:St} {hz:Nat→Bool} {n:Nat} {z:Blk},QcG stz hz n=some z→hz n=false∧n<stz.heap.length:=by
     intro stz hz n z h;unfold QcG at h;cases hh:hz n with
     |true=>rw[hh] at h;cases h
     |false =>
      rw[hh] at h;refine⟨rfl,?_⟩;rcases Nat.lt_or_ge n stz.heap.length with h1|h1
      ·exact h1
      ·simp only at h;unfold St.look at h;rw[List.getElem?_eq_none h1] at h;cases h
    have hs_take:s∈rs.take s1.i:=List.mem_of_getElem? (i:=i) (by rw[List.getElem?_take,if_pos hlt];exact hsi);unfold Stp.ovH at hx hx1;split at hx1
    ·rename_i hr1;split at hx
     ·rename_i hr0;have:=before s hsm s1 hs1 (by omega) (by omega);omega
     ·obtain⟨oo,hoo⟩:=Qhz hx;obtain⟨z,hz⟩:=v3 _ _ hoo;have h5:=(see hz).2;have h6:=hst.later s1 hs1 (by omega);omega
    ·obtain⟨o1',ho1⟩:=Qhz hx1;obtain⟨z,hz⟩:=u3 _ _ ho1;obtain⟨w1,w2⟩:=u2 b (see hz).1;split at hx
     ·rename_i hr0;have:=w2 s hs_take hr0.1 hr0.2;rw[e0] at this;exact hna this
     ·obtain⟨oo,hoo⟩:=Qhz hx;rcases w1 i (v4 _ _ hoo) (by omega) with hanc|hanc
      ·exact hna hanc
      ·have:=hfact.lt _ (e0 ▸ hanc);omega
 have next:∀(E':Env) (a':Act) (sn:St),Sim sn E' a'→Fr E0 E'→sn=(st'.act s.nm s.r).put s.dst s.r.val→(∀b,E'.U b→E.U b∨(s.nm≤b∧b<s.nm+s.r.add.length))→K a' E'.w:=by
  intro E' a' sn hs' hf' hsn hU';have hD0:D s.i=false:=by rw[e0];exact hD
  have hD1:(D s.i||Nat.beq s.i i)=true:=by rw[e0];simp
  have hD2:∀k,k≠s.i→(D k||Nat.beq k i)=D k:=by
   intro k hk
   have:Nat.beq k i=false:=by
    cases hb:Nat.beq k i with
    |false=>rfl
    |true=>exact absurd (Nat.eq_of_beq_eq_true hb) (by omega)
   rw[this,Bool.or_false]
  refine hK a' E'.w ⟨⟨sn,E',rfl,hs',hf',?_,fun t=>?_,fun b=>?_,fun b hb=>?_⟩,fun k j hk hj=>?_⟩
  ·rw[hsn,Qj0,hlen]
  ·rw[hsn,QoE,hlen,htm,QhA (p:=D) (p':=fun k=>D k||Nat.beq k i) hD0 hD1 hD2 hsm hpw (dT t)]
  ·rw[hsn,Qlx,hlk,QhA (p:=D) (p':=fun k=>D k||Nat.beq k i) hD0 hD1 hD2 hsm hpw (dB b)]
  ·rcases hU' b hb with hb|hb
   ·rcases hU b hb with h1|⟨s1,h1,h2,h3⟩
    ·exact .inl h1
    ·exact .inr ⟨s1,h1,by simp[h2],h3⟩
   ·exact .inr ⟨s,hsm,hD1,hb⟩
  ·simp only[Bool.or_eq_true] at hk ⊢;rcases hk with hk|hk
   ·exact .inl (hcl _ _ hk hj)
   ·have:=Nat.eq_of_beq_eq_true hk;subst this;exact .inl (hdep _ hj)
 have hgd:∀{d:Tmp} {want b:Bool},Qav ops o=some (some (d,want))→ht d=false→sti.tmp d=.cell (bv b)→Region.wanted o (yielded ops a.tmps)=(b==want):=by
  intro d want b hg h1 h2;exact(Qlm hs hg (by rw[viewT d h1];exact h2)).1
 unfold wpOp;rw[hoi];simp only;rcases hact with⟨hg,hr',hp⟩|⟨d,want,hg,h1,h2,hr'⟩
 ·have hw:Region.wanted o (yielded ops a.tmps)=true:=by
   rcases hg with hg|⟨d,want,hg,h1,h2⟩
   ·exact Qi5 hg _
   ·rw[hgd hg h1 h2];simp
  rw[if_pos hw];refine .inl (Qho hT hP hs.ok hev (fun b x hx=>(hs.H b).trans (viewB b x hx)) hr' hp (fun k hk hUk=>?_) fun E' v k1 k2=>?_)
  ·rcases hU _ hUk with h3|⟨s1,h3,h4,h5,h6⟩
   ·have:=hst.heap;have:=hfact.nm;omega
   ·rcases Nat.lt_trichotomy s1.i i with hl|hl|hl
    ·have:=before s1 h3 s hsm (by omega) (by omega);omega
    ·rw[hl,hD] at h4;cases h4
    ·have:=before s hsm s1 h3 (by omega) (by omega);omega
  ·have hsim:=hs.step (dst:=o.dst) k1 k2;refine next E' _ _ hsim (hf.step k1) (by rw[hfact.dst]) fun b hb=>(k1.U b).1 hb
 ·have hw:Region.wanted o (yielded ops a.tmps)=false:=by
   rcases h2 with h2|h2
   ·rw[hgd hg h1 h2];cases want<;>rfl
   ·exact Qln hs hg (by rw[viewT d h1];exact h2)
  rw[if_neg (by rw[hw];simp)];refine next E _ _ (hs.skip o.dst) hf ?_ fun b hb=>.inl hb
  rw[hr',hfact.dst];cases o.dst<;>rfl
theorem QsH{listed:Array Bool}{i:Nat}(hi:i<listed.size)(h:listed.getD i false=false):(listed.setIfInBounds i true).toList.count false+1=listed.toList.count false:=by
 rw[Array.toList_setIfInBounds];have hi':i<listed.toList.length:=by simpa using hi
 have e:listed.toList[i]=false:=by
  rw[Array.getD_eq_getD_getElem?,Array.getElem?_eq_getElem hi] at h;simpa using h
 clear hi h;generalize listed.toList=l at hi' e
 induction l generalizing i with
 |nil=>simp at hi'
 |cons x l ih =>
  cases i with
  |zero =>
   simp at e;subst e;simp
  |succ i =>
   have:=ih (i:=i) (by simpa using hi') (by simpa using e);simp only[List.set_cons_succ,List.count_cons];omega
theorem QEm(hT:TabOk P T)(hP:Q9 P T){st stn:St}{rs:List Stp}{E0:Env}{Q:Exit→Act→World→Prop}{K:St→Prop}(hA:AncOk ops.toList As)
 (hr:Run T ops As efs 0 [] ops.toList st rs stn) (hk:K stn) (hq:∀st' E' a',Sim st' E' a'→Fr E0 E'→K st'→Q .normal a' E'.w) :
 ∀(fuel:Nat) (listed:Array Bool) (a:Act) (w:World),listed.size=ops.size→listed.toList.count false≤fuel→Inv As st rs E0 (fun k=>listed.getD k false) a w→wpAny P .any ops Q fuel listed a w:=by
 have lt:∀i,i<ops.size→∀k,Anc As i k→k<i:=by
  intro i hi k hanc;obtain⟨hrl,hidx,_,_⟩:=hr.idx;have hi':i<rs.length:=by rw[hrl];simpa using hi
  have hsi:rs[i]?=some rs[i]:=List.getElem?_eq_getElem hi';obtain⟨o,sti,_,hf,_⟩:=hr.at_.1 i _ hsi;have e0:=hidx i _ hsi;have e1:rs[i].i=i:=by omega
  have:=hf.lt k (by rw[e1];exact hanc);omega
 have fin:∀(listed:Array Bool) (a:Act) (w:World),listed.size=ops.size→Inv As st rs E0 (fun k=>listed.getD k false) a w→(∀i,i<ops.size→listed.getD i false=true)→Q .normal a w:=by
  intro listed a w hsz hinv hall;obtain⟨⟨st',E,rfl,hs,hf,hlen,htm,hlk,hU⟩,_⟩:=hinv;obtain⟨hrl,hidx,_,_⟩:=hr.idx;have hend:=hr.at_.2
  have hl:∀s∈rs,listed.getD s.i false=true∧s.i<0+ops.toList.length:=by
   intro s hs;obtain⟨j,hj⟩:=List.mem_iff_getElem?.1 hs;have hjl:j<rs.length:=(List.getElem?_eq_some_iff.1 hj).1;have e:s.i=j:=by have:=hidx j s hj;omega
   rw[hrl] at hjl;refine⟨hall _ (by rw[e];simpa using hjl),by omega⟩
  refine hq stn E a (hs.congr ?_ (fun t=>?_) (fun b=>?_) fun b hb=>?_) hf hk
  ·rw[hend.len,hlen]
  ·rw[hend.tmp,htm];exact Qej fun s hs hne=>absurd (by rw[(hl s hs).1];simpa using(hl s hs).2) hne
  ·rw[hend.look,hlk];exact Qej fun s hs hne=>absurd (by rw[(hl s hs).1];simpa using(hl s hs).2) hne
  ·rcases hU b hb with h1|⟨s,h1,_,h2,h3⟩
   ·have:=hend.heap;omega
   ·have:=hend.add s h1 (hl s h1).2 (by omega);omega
 have ready:∀(listed:Array Bool),listed.size=ops.size→Region.ready .any ops listed=[]→∀i,i<ops.size→listed.getD i false=true:=by
  intro listed hsz hnil i
  induction i using Nat.strongRecOn with
  |_ i ih =>
   intro hi;cases hl:listed.getD i false with
   |true=>rfl
   |false =>
    exfalso
    have:i∈Region.ready .any ops listed:=by
     refine mem_ready.2 ⟨?_,ops[i],Array.getElem?_eq_getElem hi,fun e he hb=>?_⟩
     ·rw[Array.getD_eq_getD_getElem?,Array.getElem?_eq_getElem (by omega)] at hl ⊢;simpa using hl
     ·have hanc:=hA.in_ i ops[i] (by rw[Array.getElem?_toList];exact Array.getElem?_eq_getElem hi) e he hb;have:=lt i hi _ hanc;exact ih _ this (by omega)
    rw[hnil] at this;cases this
 intro fuel
 induction fuel with
 |zero =>
  intro listed a w hsz hc hinv
  have hall:∀i,i<ops.size→listed.getD i false=true:=by
   intro i hi;have h0:listed.toList.count false=0:=by omega
   have h1:=List.count_eq_zero.1 h0;cases hl:listed.getD i false with
   |true=>rfl
   |false =>
    exfalso;apply h1;rw[Array.getD_eq_getD_getElem?,Array.getElem?_eq_getElem (by omega)] at hl;simp at hl;rw[←hl];simp
  refine⟨?_,fin listed a w hsz hinv hall⟩;apply List.eq_nil_iff_forall_not_mem.2;intro i hi;obtain⟨h1,o,h2,_⟩:=mem_ready.1 hi;have hi':i<ops.size:=(Array.getElem?_eq_some_iff.1 h2).1;have:=hall i hi';rw[Array.getD_eq_getD_getElem?,Array.getElem?_eq_getElem (by omega)] at h1 this;simp at h1 this;rw[h1] at this;cases this
 |succ fuel ih =>
  intro listed a w hsz hc hinv;refine⟨fun hnil=>fin listed a w hsz hinv (ready listed hsz hnil),fun i hi=>?_⟩;obtain⟨h1,o,h2,h3⟩:=mem_ready.1 hi;have hi':i<ops.size:=(Array.getElem?_eq_some_iff.1 h2).1
  have h1':listed.getD i false=false:=by
   rw[Array.getD_eq_getD_getElem?,Array.getElem?_eq_getElem (by omega)] at h1 ⊢;simpa using h1
  refine Inv.step hT hP hr hi' h1' (fun j hj=>?_) hinv fun a' w' hinv'=>ih _ a' w' (by simpa using hsz) ?_ ?_
  ·obtain⟨e,he,hb,hor⟩:=hA.out i o (by rw[Array.getElem?_toList];exact h2) j hj;have hd:=h3 e he hb;rcases hor with rfl|hor
   ·exact hd
   ·exact hinv.closed _ _ hd hor
  ·have:=QsH (by omega) h1';omega
  ·have:(fun k=>(listed.setIfInBounds i true).getD k false)=fun k=>listed.getD k false||Nat.beq k i:=by
    funext k;rw[Array.getD_eq_getD_getElem?,Array.getD_eq_getD_getElem?,Array.getElem?_setIfInBounds];by_cases hk:i=k
    ·subst hk;rw[if_pos rfl,if_pos (by omega)];simp
    ·have:Nat.beq k i=false:=by
      cases hb:Nat.beq k i with
      |false=>rfl
      |true=>exact absurd (Nat.eq_of_beq_eq_true hb).symm hk
     simp[hk,this]
   rw[this];exact hinv'
theorem QsI(hT:TabOk P T)(hP:Q9 P T)(hm:P.follows .mixedOrders=true){m id:Nat}{st:St}{K:St→Prop}(h:exD T ops st K):DrawG P m id ops st K:=by
 refine .mk fun E0 Q E a hU hs hf hc=>?_
 obtain⟨As,h,hA⟩:=QHF h;rw[QsE] at h;obtain⟨rs,stn,hr,hk⟩:=Qm8 ops.toList 0 lits [] [] (by simp) QjZ (fun s hs=>by cases hs) h;refine wp_region_any hm ?_;refine QEm hT hP hA hr hk (fun st' E' a' h1 h2 h3=>hc _ _ _ _ ⟨rfl,h3⟩ h1 h2) ops.size _ a _ (by simp) (by simp[List.count_replicate]) ⟨⟨st,Qxd E,rfl,hs.draw,hf.draw,rfl,fun t=>?_,fun b=>?_,fun b hb=>.inl (hs.U b hb)⟩,fun k j hk=>?_⟩
 ·refine(Qcd fun s _ h=>?_).symm;exfalso;rw[Array.getD_eq_getD_getElem?,Array.getElem?_replicate] at h;split at h<;>simp at h
 ·refine(Qcd fun s _ h=>?_).symm;exfalso;rw[Array.getD_eq_getD_getElem?,Array.getElem?_replicate] at h;split at h<;>simp at h
 ·exfalso;simp only[Array.getD_eq_getD_getElem?,Array.getElem?_replicate] at hk;split at hk<;>simp at hk
end
end Go.Fw

