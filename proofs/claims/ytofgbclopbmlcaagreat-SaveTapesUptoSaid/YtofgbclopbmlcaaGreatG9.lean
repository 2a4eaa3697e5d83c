/- Part 9 of the proof. Conditions: none. -/
import Derived.Test.YtofgbclopbmlcaaGreatG8
namespace Go.Fw
set_option linter.unusedVariables false
set_option linter.unusedSimpArgs false
structure Stp where
 i:Nat
 dst:Option Tmp
 nm:Nat
 r:Res
def Stp.ovT(n:Nat)(t:Tmp)(s:Stp):Option AV:=match s.dst with
 |some d=>if d=t∧t<n then some s.r.val else none
 |none=>none
def ovS:List (Nat×Option Blk)→Nat→Option (Option Blk)
 | [],_=>none
 |(n,o)::r,b=>match ovS r b with
  |some x=>some x
  |none=>if b=n then some o else none
def Stp.ovH(b:Nat)(s:Stp):Option (Option Blk):=if s.nm≤b∧b<s.nm+s.r.add.length then some s.r.add[b-s.nm]? else ovS s.r.set b
theorem Qtb:∀(l:List (Nat×Option Blk)) (H:Nat→Option Blk) (b:Nat),Qgf H l b=(ovS l b).getD (H b)
 | [],H,b=>rfl
 |(n,o)::r,H,b=>by
  rw[Qgf,Qtb r,ovS];cases ovS r b with
  |some x=>rfl
  |none =>
   simp only[Option.getD];by_cases h:b=n
   ·simp[h]
   ·simp[h]
theorem QhP:∀{l:List (Nat×Option Blk)} {b:Nat} {x:Option Blk},ovS l b=some x→∃o,(b,o)∈l
 |(n,o)::r,b,x,h=>by
  unfold ovS at h;split at h
  ·rename_i y hy;obtain⟨o',ho⟩:=QhP hy;exact⟨o',by simp[ho]⟩
  ·split at h
   ·rename_i hb;subst hb;exact⟨o,by simp⟩
   ·cases h
theorem QlJ(st:St)(s:Stp)(v:AV)(b:Nat):((st.act s.nm s.r).put s.dst v).look b=(s.ovH b).getD (st.look b):=by
 have h:((st.act s.nm s.r).put s.dst v).look b=(st.act s.nm s.r).look b:=by cases s.dst<;>rfl
 rw[h,QoI,Qj1];unfold Stp.ovH;split
 ·rfl
 ·exact Qtb _ _ _
theorem QoS(st:St)(s:Stp)(t:Tmp):((st.act s.nm s.r).put s.dst s.r.val).tmp t=(s.ovT st.tmps.length t).getD (st.tmp t):=by
 unfold Stp.ovT;cases s.dst with
 |none=>rfl
 |some d =>
  show(st.tmps.set d s.r.val).getD t .dead=_;simp only[Yd,YY];by_cases hd:d=t
  ·subst hd;by_cases hl:d<st.tmps.length
   ·simp[hl]
   ·simp[hl,St.tmp]
  ·simp[hd,St.tmp]
theorem Qkg(st:St)(s:Stp)(v:AV):((st.act s.nm s.r).put s.dst v).tmps.length=st.tmps.length:=by
 cases hd:s.dst with
 |none=>rfl
 |some d=>simp[St.put,St.act]
theorem QlK(st:St)(s:Stp)(v:AV):st.heap.length≤((st.act s.nm s.r).put s.dst v).heap.length∧(0<s.r.add.length→s.nm+s.r.add.length≤((st.act s.nm s.r).put s.dst v).heap.length):=by
 have h:((st.act s.nm s.r).put s.dst v).heap=QeN (QdX st.heap s.r.set) s.nm s.r.add:=by cases s.dst<;>rfl
 rw[h];obtain⟨h1,h2⟩:=Qc9 s.r.add (QdX st.heap s.r.set) s.nm;have:=Qgj s.r.set st.heap;exact⟨by omega,h2⟩
def Qd3{α:Type}(ov:Stp→Option α)(p:Nat→Bool):List Stp→α→α
 | [],x=>x
 |s::r,x=>Qd3 ov p r (if p s.i then (ov s).getD x else x)
theorem Qep{α:Type}{ov:Stp→Option α}{p q:Nat→Bool}:∀{l:List Stp} {x:α},(∀s∈l,p s.i≠q s.i→ov s=none)→Qd3 ov p l x=Qd3 ov q l x
 | [],_,_=>rfl
 |s::r,x,h=>by
  unfold Qd3
  have:(if p s.i then (ov s).getD x else x)=(if q s.i then (ov s).getD x else x):=by
   by_cases he:p s.i=q s.i
   ·rw[he]
   ·rw[h s (by simp) he];simp
  rw[this];exact Qep fun s' hs=>h s' (by simp[hs])
theorem Qci{α:Type}{ov:Stp→Option α}{p:Nat→Bool}:∀{l:List Stp} {x:α},(∀s∈l,p s.i=true→ov s=none)→Qd3 ov p l x=x
 | [],_,_=>rfl
 |s::r,x,h=>by
  unfold Qd3
  have:(if p s.i then (ov s).getD x else x)=x:=by
   split
   ·rw[h s (by simp) ‹_›];rfl
   ·rfl
  rw[this];exact Qci fun s' hs=>h s' (by simp[hs])
theorem QhQ{α:Type}{ov:Stp→Option α}{p p':Nat→Bool}{s0:Stp}(hp0:p s0.i=false)(hp0':p' s0.i=true)(hp':∀k,k≠s0.i→p' k=p k):∀{l:List Stp} {x:α},s0∈l→l.Pairwise (fun a b=>a.i<b.i) →
 (∀s∈l,s0.i<s.i→p s.i=true→ov s0=none∨ov s=none)→Qd3 ov p' l x=(ov s0).getD (Qd3 ov p l x)
 | [],_,hm,_,_=>by cases hm
 |s::r,x,hm,hw,h=>by
  obtain⟨hw1,hw2⟩:=List.pairwise_cons.1 hw;unfold Qd3;rcases Yt.1 hm with rfl|hm
  ·rw[hp0,hp0'];simp only[if_true,Bool.false_eq_true,if_false];have e:∀y,Qd3 ov p' r y=Qd3 ov p r y:=fun y=>Qep fun s hs hne=>YD (hp' s.i (by have:=hw1 s hs;omega)) hne
   rw[e];cases ho:ov s0 with
   |none=>rfl
   |some y =>
    simp only[Option.getD];exact Qci fun s hs hps=>(h s (by simp[hs]) (hw1 s hs) hps).resolve_left (by rw[ho];simp)
  ·have hlt:=hw1 s0 hm;rw[hp' s.i (by omega)];exact QhQ hp0 hp0' hp' hm hw2 fun s' hs=>h s' (by simp[hs])
section
variable (T:Tab) (ops:Array Oper) (As:List (List Bool)) (efs:List W1)
def Anc(i k:Nat):Prop:=QdT (Qcq As i) k=true
structure Fact(prev:List Stp)(st:St)(o:Oper)(s:Stp):Prop where
 dst:s.dst=o.dst
 nm:st.heap.length≤s.nm
 lt:∀k,Anc As s.i k→k<s.i
 seen:∀(k:Nat) o' d,k<s.i→ops[k]?=some o'→o'.dst=some d→o.dst=some d→Anc As s.i k∨Anc As k s.i
 views:∃(ht:Tmp→Bool) (hb:Nat→Bool),
  (∀t,ht t=false→∀(k:Nat) o',ops[k]?=some o'→o'.dst=some t→k≠s.i→Anc As s.i k∨Anc As k s.i) ∧
  (∀b,hb b=false→(∀k,Qw6 (QsA efs k) b=true→k≠s.i→Anc As s.i k∨Anc As k s.i)∧∀s'∈prev,s'.nm≤b→b<s'.nm+s'.r.add.length→Anc As s.i s'.i) ∧
  (∀n x,(n,x)∈s.r.set→∃y,QcK st hb n=some y) ∧
  (∀n x,(n,x)∈s.r.set→Qw6 (QsA efs s.i) n=true) ∧
  (((QaA ops o=some none∨∃d want,QaA ops o=some (some (d,want))∧ht d=false∧st.tmp d=.cell (bv want)) ∧
      dstep T (QhK st ht) (QcK st hb) s.nm o=some s.r∧(∀q,s.r.pre=some q→q)) ∨
    (∃d want,QaA ops o=some (some (d,want))∧ht d=false∧(st.tmp d=.cell (bv (!want))∨st.tmp d=.tup [])∧s.r={ pre:=none,val:=.tup [],add:=[],set:=[] }))
inductive Run:Nat→List Stp→List Oper→St→List Stp→St→Prop where
 |nil {c prev st}:Run c prev [] st [] st
 |cons {c prev st o l s rest st'}:s.i=c→Fact T ops As efs prev st o s→Run (c+1) (prev++[s]) l ((st.act s.nm s.r).put s.dst s.r.val) rest st'→Run c prev (o::l) st (s::rest) st'
end
section
variable {T:Tab} {ops:Array Oper} {As:List (List Bool)} {efs:List W1}
theorem QoT{st:St}{d:Tmp}{v:AV}(h:st.tmp d=v):st.put (some d) v=st:=by
 show{ st with tmps:=st.tmps.set d v }=st
 have:st.tmps.set d v=st.tmps:=by
  apply List.ext_getElem?;intro i;rw[YY];by_cases hd:d=i
  ·subst hd;by_cases hl:d<st.tmps.length
   ·simp[hl];rw[←h];simp[St.tmp,hl]
   ·simp[hl]
  ·simp[hd]
 rw[this]
theorem Qnm:∀(l:List Oper) (c:Nat) (is:List Nat) (own:List (Nat×Nat×Nat)) (prev:List Stp) {st:St} {K:St→Prop},
 ops.toList.drop c=l→(∀(j n:Nat),is[j]?=some n→n=c+j)→(∀s∈prev,s.r.add≠[]→(s.i,s.nm,s.r.add.length)∈own)→exM T ops As efs l is own st K →
 ∃rs st',Run T ops As efs c prev l st rs st'∧K st'
 | [],c,is,own,prev,st,K,_,_,_,h=>⟨[],st,.nil,h⟩
 |o::l,c,[],own,prev,st,K,_,_,_,h=>h.elim
 |o::l,c,i::is,own,prev,st,K,hd,hi,ho,h=>by
  have hc:i=c:=by simpa using hi 0 i rfl
  subst hc;have hi':∀(j n:Nat),is[j]?=some n→n=i+1+j:=fun j n hn=>by have:=hi (j+1) n (by simpa using hn);omega
  have hd':ops.toList.drop (i+1)=l:=by
   have:=Yv (List.drop 1) hd;simpa using this
  unfold exM at h;split at h
  ·exact h.elim
  ·rename_i hchk;rw[Yj] at hchk;obtain⟨hle,hseen⟩:=hchk;rw[Qs9] at h;generalize hinc:Qq8 i efs As (Qcq As i) lits=inc at h;have lt:∀k,Anc As i k→k<i:=fun k hk=>QoR hle hk
   have seen:∀(k:Nat) o' d,k<i→ops[k]?=some o'→o'.dst=some d→o.dst=some d→Anc As i k∨Anc As k i:=by
    intro k o' d hk hko hd1 hd2;unfold Qnj at hseen;rw[hd2] at hseen;simp only at hseen;split at hseen
    ·cases hseen
    ·rename_i hf;exact Qkd (c:=0) (fun j n h=>Qkf j n h) hf k o' (by rw[List.getElem?_take,Yf hk,YA];exact hko) hd1 (by omega)
   have v1:∀t,Qb5 i t ops.toList As (Qcq As i) lits=false→∀(k:Nat) o',ops[k]?=some o'→o'.dst=some t→k≠i→Anc As i k∨Anc As k i:=by
    intro t ht k o' hk hd1 hne;exact Qkd (c:=0) (fun j n h=>Qkf j n h) ht k o' (by rw[YA];exact hk) hd1 (by omega)
   have v2:∀b,QgW inc (Qcq As i) b own=false→(∀k,Qw6 (QsA efs k) b=true→k≠i→Anc As i k∨Anc As k i)∧∀s'∈prev,s'.nm≤b→b<s'.nm+s'.r.add.length→Anc As i s'.i:=by
    intro b hb;obtain⟨h1,h2⟩:=Qke hb;refine⟨fun k hk hne=>Qta (c:=0) (fun j n h=>Qkf j n h) (by rw[hinc];exact h1) k hk (by omega),fun s' hs h3 h4=>h2 _ _ _ (ho s' hs ?_) h3 h4⟩;intro e;rw[e] at h4;simp at h4;omega
   have do_:∀{st:St},(QaA ops o=some none∨∃d want,QaA ops o=some (some (d,want))∧Qb5 i d ops.toList As (Qcq As i) lits=false∧st.tmp d=.cell (bv want)) →
    (Qaz lits st.heap st.heap.length fun nm=>doM T o (fun t=>Qb5 i t ops.toList As (Qcq As i) lits) (fun b=>QgW inc (Qcq As i) b own) (QsA efs i) nm st fun st' add=>exM T ops As efs l is (Qfv own i nm add) st' K) →
    ∃rs st',Run T ops As efs i prev (o::l) st rs st'∧K st':=by
    intro st hg h;obtain⟨nm,hnm,h⟩:=named h;unfold doM at h;split at h
    ·rename_i r hr;obtain⟨hp,h⟩:=QoJ h;rw[QsO] at h;split at h
     ·rename_i hs;rw[Yj] at hs;rw[Qbi] at h
      obtain⟨rs,st',h1,h2⟩:=Qnm l (i+1) is (Qfv own i nm r.add) (prev++[{ i:=i,dst:=o.dst,nm:=nm,r:=r }]) hd' hi' (fun s hs hne=>by
       rcases YN.1 hs with hs|hs
       ·have:=ho s hs hne;cases r.add with
        |nil=>exact this
        |cons _ _=>exact YP _ this
       ·simp at hs;subst hs;simp only at hne ⊢;cases hra:r.add with
        |nil=>exact YD hra hne
        |cons x y=>simp[Qfv]) h
      exact⟨_,st',.cons rfl ⟨rfl,hnm,lt,seen,_,_,v1,v2,fun n x hx=>QhO hs.1 n x hx,fun n x hx=>QlI hs.2 n x hx,.inl ⟨hg,hr,hp⟩⟩ h1,h2⟩
     ·exact h.elim
    ·exact h.elim
   have skip_:∀{st:St} {d:Tmp} {want:Bool},QaA ops o=some (some (d,want))→Qb5 i d ops.toList As (Qcq As i) lits=false→(st.tmp d=.cell (bv (!want))∨st.tmp d=.tup [])→exM T ops As efs l is own (st.put o.dst (.tup [])) K →
    ∃rs st',Run T ops As efs i prev (o::l) st rs st'∧K st':=by
    intro st d want hg hh ht h
    obtain⟨rs,st',h1,h2⟩:=Qnm l (i+1) is own (prev++[{ i:=i,dst:=o.dst,nm:=st.heap.length,r:={ pre:=none,val:=.tup [],add:=[],set:=[] } }]) hd' hi' (fun s hs hne=>by
     rcases YN.1 hs with hs|hs
     ·exact ho s hs hne
     ·simp at hs;subst hs;simp at hne) h
    exact⟨_,st',.cons rfl ⟨rfl,YE _,lt,seen,_,_,v1,v2,fun n x hx=>(by cases hx),fun n x hx=>(by cases hx),.inr ⟨d,want,hg,hh,ht,rfl⟩⟩ h1,h2⟩
   split at h
   ·exact h.elim
   ·rename_i hg;exact do_ (.inl hg) h
   ·rename_i d want hg;split at h
    ·rename_i b hb
     have hvis:Qb5 i d ops.toList As (Qcq As i) lits=false∧st.tmp d=.cell (bv b):=by
      unfold QhK at hb;simp only at hb;split at hb
      ·cases hb
      ·exact⟨‹_›,hb⟩
     cases b with
     |true =>
      simp only[Br] at h;rw[Qbi,QoT hvis.2] at h;cases want with
      |true=>exact do_ (.inr ⟨d,true,hg,hvis.1,hvis.2⟩) h
      |false=>simp only[Qbi] at h;exact skip_ hg hvis.1 (.inl hvis.2) h
     |false =>
      simp only[Br] at h;rw[Qbi,QoT hvis.2] at h;cases want with
      |false=>exact do_ (.inr ⟨d,false,hg,hvis.1,hvis.2⟩) h
      |true=>simp only[Qbi] at h;exact skip_ hg hvis.1 (.inl hvis.2) h
    ·rename_i hb
     have hvis:Qb5 i d ops.toList As (Qcq As i) lits=false∧st.tmp d=.tup []:=by
      unfold QhK at hb;simp only at hb;split at hb
      ·cases hb
      ·exact⟨‹_›,hb⟩
     rw[Qbi] at h;exact skip_ hg hvis.1 (.inr hvis.2) h
    ·exact h.elim
theorem Run.idx:∀{c:Nat} {prev:List Stp} {l:List Oper} {st:St} {rs:List Stp} {st':St},Run T ops As efs c prev l st rs st'→rs.length=l.length∧(∀(j:Nat) s,rs[j]?=some s→s.i=c+j)∧rs.Pairwise (fun a b=>a.i<b.i)∧∀s∈rs,c≤s.i:=by
 intro c prev l st rs st' h
 induction h with
 |nil=>exact⟨rfl,fun j s h=>by simp at h,List.Pairwise.nil,fun s h=>by cases h⟩
 |cons hi hf _ ih =>
  obtain⟨h1,h2,h3,h4⟩:=ih;refine⟨by simp[h1],fun j s hj=>?_,List.pairwise_cons.2 ⟨fun s hs=>by have:=h4 s hs;omega,h3⟩,fun s hs=>?_⟩
  ·cases j with
   |zero=>simp at hj;subst hj;simpa using hi
   |succ j=>have:=h2 j s (by simpa using hj);omega
  ·rcases Yt.1 hs with rfl|hs
   ·omega
   ·have:=h4 s hs;omega
structure AtJ(st:St)(rs:List Stp)(c:Nat)(sti:St):Prop where
 tmp:∀t,sti.tmp t=Qd3 (Stp.ovT st.tmps.length t) (fun k=>decide (k<c)) rs (st.tmp t)
 look:∀b,sti.look b=Qd3 (Stp.ovH b) (fun k=>decide (k<c)) rs (st.look b)
 len:sti.tmps.length=st.tmps.length
 heap:st.heap.length≤sti.heap.length
 add:∀s∈rs,s.i<c→0<s.r.add.length→s.nm+s.r.add.length≤sti.heap.length
 later:∀s∈rs,c≤s.i→sti.heap.length≤s.nm
theorem Run.nmge:∀{c:Nat} {prev:List Stp} {l:List Oper} {st:St} {rs:List Stp} {st':St},Run T ops As efs c prev l st rs st'→∀s∈rs,st.heap.length≤s.nm:=by
 intro c prev l st rs st' hrun
 induction hrun with
 |nil=>intro s h;cases h
 | @cons c prev stx o l s rest st' hi hfx hr ih =>
   intro s2 h2;rcases Yt.1 h2 with rfl|h2
   ·exact hfx.nm
   ·have:=ih s2 h2;have:=(QlK stx s s.r.val).1;omega
theorem Run.at_:∀{c:Nat} {prev:List Stp} {l:List Oper} {st:St} {rs:List Stp} {st':St},Run T ops As efs c prev l st rs st' →
 (∀(j:Nat) s,rs[j]?=some s→∃o sti,l[j]?=some o∧Fact T ops As efs (prev++rs.take j) sti o s∧AtJ st rs (c+j) sti)∧AtJ st rs (c+l.length) st':=by
 intro c prev l st rs st' h
 induction h with
 |nil=>exact⟨fun j s h=>by simp at h,⟨fun _=>rfl,fun _=>rfl,rfl,YE _,fun s h=>(by cases h),fun s h=>(by cases h)⟩⟩
 | @cons c prev st o l s rest st' hi hf hr ih =>
   obtain⟨h1,h2⟩:=ih;obtain⟨_,_,_,hge⟩:=hr.idx
   have up:∀{j:Nat} {sti:St},AtJ ((st.act s.nm s.r).put s.dst s.r.val) rest (c+1+j) sti→AtJ st (s::rest) (c+(j+1)) sti:=by
    intro j sti h;have e:c+(j+1)=c+1+j:=by omega
    rw[e];have hlt:decide (s.i<c+1+j)=true:=by simp;omega
    obtain⟨g1,g2⟩:=QlK st s s.r.val;refine⟨fun t=>?_,fun b=>?_,by rw[h.len,Qkg],by have:=h.heap;omega,fun s' hs' hlt' hpos=>?_,fun s' hs' hge'=>?_⟩
    ·rw[h.tmp,QoS,Qkg];show _=Qd3 _ _ rest (if decide (s.i<c+1+j) then _ else _);rw[hlt];rfl
    ·rw[h.look,QlJ];show _=Qd3 _ _ rest (if decide (s.i<c+1+j) then _ else _);rw[hlt];rfl
    ·rcases Yt.1 hs' with rfl|hs'
     ·have:=g2 hpos;have:=h.heap;omega
     ·exact h.add s' hs' hlt' hpos
    ·rcases Yt.1 hs' with rfl|hs'
     ·omega
     ·exact h.later s' hs' hge'
   refine⟨fun j s' hj=>?_,?_⟩
   ·cases j with
    |zero =>
     simp at hj;subst hj
     have hno:∀s'∈(s::rest),decide (s'.i<c+0)=true→False:=by
      intro s' hs' hlt;simp at hlt;rcases Yt.1 hs' with rfl|hs'
      ·omega
      ·have:=hge s' hs';omega
     refine⟨o,st,rfl,by simpa using hf,⟨fun t=>?_,fun b=>?_,rfl,YE _,fun s' hs' hlt=>YD (by simpa using hlt) (hno s' hs'),fun s' hs' _=>(Run.cons hi hf hr).nmge s' hs'⟩⟩
     ·exact(Qci fun s' hs' hlt=>(hno s' hs' hlt).elim).symm
     ·exact(Qci fun s' hs' hlt=>(hno s' hs' hlt).elim).symm
    |succ j =>
     obtain⟨o',sti,g1,g2,g3⟩:=h1 j s' (by simpa using hj);exact⟨o',sti,by simpa using g1,by simpa using g2,up g3⟩
   ·have:=up h2;simpa using this
end
theorem Sim.congr{st st':St}{E:Env}{a:Act}(h:Sim st E a)(hl:st'.tmps.length=st.tmps.length)(ht:∀t,st'.tmp t=st.tmp t)(hb:∀b,st'.look b=st.look b)(hU:∀b,E.U b→b<st'.heap.length):Sim st' E a:=by
 refine⟨h.defers,h.len.trans hl.symm,fun i x hx=>?_,h.ok,fun b=>(h.H b).trans (hb b).symm,hU⟩;have hi:i<st'.tmps.length:=(Yu.1 hx).1;have h1:=ht i;unfold St.tmp at h1;rw[Yd,Yd,hx] at h1;have h2:st.tmps[i]?=some st.tmps[i]:=Ye (by omega);rw[h2] at h1;simp at h1;subst h1;exact h.tmp i _ h2
def QxC(E:Env):Env:={ E with w:={ E.w with drawn:=E.w.drawn+1 } }
theorem QhR(E:Env):Ext E (QxC E):=⟨fun g h=>⟨h,rfl⟩,fun _ h=>h,fun b x' _ h=>⟨x',h,rfl,rfl,fun g cs el _ h=>⟨cs,h,rfl⟩⟩⟩
theorem Sim.draw{st:St}{E:Env}{a:Act}(h:Sim st E a):Sim st (QxC E) a:=by
 refine⟨h.defers,h.len,fun i x hx=>?_,⟨fun b x hx=>?_,h.ok.inj,h.ok.st⟩,h.H,h.U⟩
 ·obtain⟨v,h1,h2⟩:=h.tmp i x hx;exact⟨v,h1,h2.ext (QhR E)⟩
 ·obtain⟨h1,h2,h3⟩:=h.ok.blk b x hx;exact⟨h1,h2.ext (QhR E) rfl fun _ _=>rfl,h3⟩
theorem Fr.draw{E0 E:Env}(h:Fr E0 E):Fr E0 (QxC E) :=
 ⟨⟨h.fr.os,h.fr.tape,h.fr.output,h.fr.size,h.fr.old,h.fr.own,h.fr.S⟩,h.ext.trans (QhR E)⟩
section
variable {P:Program} {T:Tab} {ops:Array Oper} {As:List (List Bool)} {efs:List W1}
structure Inv(As:List (List Bool))(st:St)(rs:List Stp)(E0:Env)(D:Nat→Bool)(a:Act)(w:World):Prop where
 ex:∃st' E,E.w=w∧Sim st' E a∧Fr E0 E∧st'.tmps.length=st.tmps.length∧(∀t,st'.tmp t=Qd3 (Stp.ovT st.tmps.length t) D rs (st.tmp t)) ∧
  (∀b,st'.look b=Qd3 (Stp.ovH b) D rs (st.look b))∧(∀b,E.U b→b<st.heap.length∨∃s∈rs,D s.i=true∧s.nm≤b∧b<s.nm+s.r.add.length)
 closed:∀k j,D k=true→Anc As k j→D j=true
theorem Inv.step(hT:TabOk P T)(hP:Q7 P T){st stn:St}{rs:List Stp}{E0:Env}{D:Nat→Bool}{a:Act}{w:World}{i:Nat}{K:Act→World→Prop}{Q:Exit→Act→World→Prop}
 (hr:Run T ops As efs 0 [] ops.toList st rs stn) (hi:i<ops.size) (hD:D i=false) (hdep:∀j,Anc As i j→D j=true) (h:Inv As st rs E0 D a w)
 (hK:∀a' w',Inv As st rs E0 (fun k=>D k||Nat.beq k i) a' w'→K a' w'):wpOp P ops Q i K a w:=by
 obtain⟨⟨st',E,rfl,hs,hf,hlen,htm,hlk,hU⟩,hcl⟩:=h;obtain⟨hrl,hidx,hpw,_⟩:=hr.idx;obtain⟨hat,_⟩:=hr.at_;have hi':i<rs.length:=by rw[hrl];simpa using hi
 have hsi:rs[i]?=some rs[i]:=Ye hi';generalize rs[i]=s at hsi;have hsm:s∈rs:=List.mem_of_getElem? hsi;obtain⟨o,sti,ho,hfact,hst⟩:=hat i s hsi;have e0:s.i=i:=by have:=hidx i s hsi;omega
 simp only[Jh] at hst;simp only[List.nil_append] at hfact;have hoi:ops[i]?=some o:=by rw[←YA];exact ho
 have step:∀s'∈rs,∃o' sti',ops[s'.i]?=some o'∧Fact T ops As efs (rs.take s'.i) sti' o' s'∧AtJ st rs s'.i sti':=by
  intro s' hs';obtain⟨j,hj⟩:=List.mem_iff_getElem?.1 hs';obtain⟨o',sti',g1,g2,g3⟩:=hat j s' hj;have e:s'.i=j:=by have:=hidx j s' hj;omega
  rw[e];exact⟨o',sti',by rw[←YA];exact g1,by simpa using g2,by simpa using g3⟩
 have before:∀s1∈rs,∀s2∈rs,s1.i<s2.i→0<s1.r.add.length→s1.nm+s1.r.add.length≤s2.nm:=by
  intro s1 h1 s2 h2 hlt hpos;obtain⟨_,sti',_,g2,g3⟩:=step s2 h2;have:=g3.add s1 h1 hlt hpos;have:=g2.nm;omega
 have inTake:∀s1∈rs,s1.i<i→s1∈rs.take i:=by
  intro s1 h1 hlt;obtain⟨j,hj⟩:=List.mem_iff_getElem?.1 h1;have e:s1.i=j:=by have:=hidx j s1 hj;omega
  exact List.mem_of_getElem? (i:=j) (by rw[List.getElem?_take,Yf (by omega)];exact hj)
 obtain⟨ht,hb,v1,v2,v3,v4,hact⟩:=hfact.views;rw[e0] at v1 v2 v4
 have same:∀s1∈rs,s1.i=i→s1=s:=by
  intro s1 h1 he;obtain⟨j,hj⟩:=List.mem_iff_getElem?.1 h1;have e:s1.i=j:=by have:=hidx j s1 hj;omega
  have:j=i:=by omega
  subst this;rw[hj] at hsi;injection hsi
 have viewT:∀t,ht t=false→st'.tmp t=sti.tmp t:=by
  intro t h1;rw[htm,hst.tmp];refine Qep fun s1 hs1 hne=>?_
  obtain⟨o1,_,g1,g2,_⟩:=step s1 hs1;cases ho1:s1.ovT st.tmps.length t with
  |none=>rfl
  |some y =>
   exfalso
   have hd1:o1.dst=some t:=by
    rw[←g2.dst];unfold Stp.ovT at ho1;cases hd:s1.dst with
    |none=>rw[hd] at ho1;cases ho1
    |some d =>
     rw[hd] at ho1;simp only at ho1;split at ho1
     ·rename_i hc;rw[hc.1]
     ·cases ho1
   by_cases he:s1.i=i
   ·rw[he] at hne;exact hne (by rw[hD];simp)
   ·rcases v1 t h1 s1.i o1 g1 hd1 he with hanc|hanc
    ·have h2:=hdep _ hanc;have h3:=hfact.lt _ (e0 ▸ hanc);exact hne (by rw[h2];simp;omega)
    ·have h3:=g2.lt _ hanc;cases hds:D s1.i with
     |true=>have:=hcl _ _ hds hanc;rw[hD] at this;cases this
     |false=>exact hne (by rw[hds];simp;omega)
 have viewB:∀b x,QcK sti hb b=some x→st'.look b=some x:=by
  intro b x hx;unfold QcK at hx;cases hbb:hb b with
  |true=>rw[hbb] at hx;cases hx
  |false =>
   rw[hbb] at hx;simp only at hx
   have hblt:b<sti.heap.length:=by
    rcases Jp b sti.heap.length with h|h
    ·exact h
    ·unfold St.look at hx;rw[YK h] at hx;cases hx
   rw[←hx,hlk,hst.look];obtain⟨w1,w2⟩:=v2 b hbb;refine Qep fun s1 hs1 hne=>?_
   obtain⟨o1,sti1,g1,g2,g3⟩:=step s1 hs1;by_cases he:s1.i=i
   ·exact YD (by rw[he,hD];simp) hne
   cases ho1:s1.ovH b with
   |none=>rfl
   |some y =>
    exfalso;unfold Stp.ovH at ho1;split at ho1
    ·rename_i hrng;rcases Jp s1.i i with hlt|hge
     ·have hanc:=w2 s1 (inTake s1 hs1 hlt) hrng.1 hrng.2;exact hne (by rw[hdep _ hanc];simp[hlt])
     ·have:=hst.later s1 hs1 hge;omega
    ·rename_i hrng;obtain⟨oo,hoo⟩:=QhP ho1;obtain⟨_,_,_,_,_,u4,_⟩:=g2.views;rcases w1 s1.i (u4 _ _ hoo) he with hanc|hanc
     ·have h3:=hfact.lt _ (e0 ▸ hanc);exact hne (by rw[hdep _ hanc];simp;omega)
     ·have h3:=g2.lt _ hanc;cases hds:D s1.i with
      |true=>have:=hcl _ _ hds hanc;rw[hD] at this;cases this
      |false=>exact hne (by rw[hds];simp;omega)
 have hev:∀x,AVR E (QhK sti ht x) (a.eval x):=by
  intro x;cases x with
  |tmp t =>
   show AVR E (match ht t with|true=>.dead|false=>sti.tmp t) _;cases h1:ht t with
   |true=>trivial
   |false=>rw[←viewT t h1];exact hs.at_ t
  |const v=>exact hs.eval (.const v)
  |func f=>exact hs.eval (.func f)
  |global g=>trivial
 have apart:∀s1∈rs,i<s1.i→D s1.i=true→∃o1 sti1,ops[s1.i]?=some o1∧Fact T ops As efs (rs.take s1.i) sti1 o1 s1∧¬Anc As s1.i i:=by
  intro s1 hs1 hlt hd1;obtain⟨o1,sti1,g1,g2,_⟩:=step s1 hs1;exact⟨o1,sti1,g1,g2,fun hanc=>by have:=hcl _ _ hd1 hanc;rw[hD] at this;cases this⟩
 have dT:∀t,∀s1∈rs,s.i<s1.i→D s1.i=true→s.ovT st.tmps.length t=none∨s1.ovT st.tmps.length t=none:=by
  intro t s1 hs1 hlt hd1;rw[e0] at hlt;obtain⟨o1,sti1,g1,g2,hna⟩:=apart s1 hs1 hlt hd1;unfold Stp.ovT;cases hd:s.dst with
  |none=>exact .inl rfl
  |some d =>
   cases hd':s1.dst with
   |none=>exact .inr rfl
   |some d' =>
    by_cases h1:d=t
    ·by_cases h2:d'=t
     ·exfalso;rcases g2.seen i o d hlt hoi (by rw[←hfact.dst];exact hd) (by rw[←g2.dst,hd',h1,h2]) with hanc|hanc
      ·exact hna hanc
      ·have:=hfact.lt _ (e0 ▸ hanc);omega
     ·exact .inr (by simp[h2])
    ·exact .inl (by simp[h1])
 have dB:∀b,∀s1∈rs,s.i<s1.i→D s1.i=true→s.ovH b=none∨s1.ovH b=none:=by
  intro b s1 hs1 hlt hd1;rw[e0] at hlt;obtain⟨o1,sti1,g1,g2,hna⟩:=apart s1 hs1 hlt hd1;obtain⟨ht1,hb1,_,u2,u3,u4,_⟩:=g2.views;cases hx:s.ovH b with
  |none=>exact .inl rfl
  |some y =>
   cases hx1:s1.ovH b with
   |none=>exact .inr rfl
   |some y1 =>
    exfalso
    have see:∀{stz:St} {hz:Nat→Bool} {n:Nat} {z:Blk},QcK stz hz n=some z→hz n=false∧n<stz.heap.length:=by
     intro stz hz n z h;unfold QcK at h;cases hh:hz n with
     |true=>rw[hh] at h;cases h
     |false =>
      rw[hh] at h;refine⟨rfl,?_⟩;rcases Jp n stz.heap.length with h1|h1
      ·exact h1
      ·simp only at h;unfold St.look at h;rw[YK h1] at h;cases h
    have hs_take:s∈rs.take s1.i:=List.mem_of_getElem? (i:=i) (by rw[List.getElem?_take,Yf hlt];exact hsi);unfold Stp.ovH at hx hx1;split at hx1
    ·rename_i hr1;split at hx
     ·rename_i hr0;have:=before s hsm s1 hs1 (by omega) (by omega);omega
     ·obtain⟨oo,hoo⟩:=QhP hx;obtain⟨z,hz⟩:=v3 _ _ hoo;have h5:=(see hz).2;have h6:=hst.later s1 hs1 (by omega);omega
    ·obtain⟨o1',ho1⟩:=QhP hx1;obtain⟨z,hz⟩:=u3 _ _ ho1;obtain⟨w1,w2⟩:=u2 b (see hz).1;split at hx
     ·rename_i hr0;have:=w2 s hs_take hr0.1 hr0.2;rw[e0] at this;exact hna this
     ·obtain⟨oo,hoo⟩:=QhP hx;rcases w1 i (v4 _ _ hoo) (by omega) with hanc|hanc
      ·exact hna hanc
      ·have:=hfact.lt _ (e0 ▸ hanc);omega
 have next:∀(E':Env) (a':Act) (sn:St),Sim sn E' a'→Fr E0 E'→sn=(st'.act s.nm s.r).put s.dst s.r.val→(∀b,E'.U b→E.U b∨(s.nm≤b∧b<s.nm+s.r.add.length))→K a' E'.w:=by
  intro E' a' sn hs' hf' hsn hU';have hD0:D s.i=false:=by rw[e0];exact hD
  have hD1:(D s.i||Nat.beq s.i i)=true:=by rw[e0];simp
  have hD2:∀k,k≠s.i→(D k||Nat.beq k i)=D k:=by
   intro k hk
   have:Nat.beq k i=false:=by
    cases hb:Nat.beq k i with
    |false=>rfl
    |true=>exact YD (Yg hb) (by omega)
   rw[this,Bool.or_false]
  refine hK a' E'.w ⟨⟨sn,E',rfl,hs',hf',?_,fun t=>?_,fun b=>?_,fun b hb=>?_⟩,fun k j hk hj=>?_⟩
  ·rw[hsn,Qkg,hlen]
  ·rw[hsn,QoS,hlen,htm,QhQ (p:=D) (p':=fun k=>D k||Nat.beq k i) hD0 hD1 hD2 hsm hpw (dT t)]
  ·rw[hsn,QlJ,hlk,QhQ (p:=D) (p':=fun k=>D k||Nat.beq k i) hD0 hD1 hD2 hsm hpw (dB b)]
  ·rcases hU' b hb with hb|hb
   ·rcases hU b hb with h1|⟨s1,h1,h2,h3⟩
    ·exact .inl h1
    ·exact .inr ⟨s1,h1,by simp[h2],h3⟩
   ·exact .inr ⟨s,hsm,hD1,hb⟩
  ·simp only[Bool.or_eq_true] at hk ⊢;rcases hk with hk|hk
   ·exact .inl (hcl _ _ hk hj)
   ·have:=Yg hk;subst this;exact .inl (hdep _ hj)
 have hgd:∀{d:Tmp} {want b:Bool},QaA ops o=some (some (d,want))→ht d=false→sti.tmp d=.cell (bv b)→Region.wanted o (yielded ops a.tmps)=(b==want):=by
  intro d want b hg h1 h2;exact(Qlz hs hg (by rw[viewT d h1];exact h2)).1
 unfold wpOp;rw[hoi];simp only;rcases hact with⟨hg,hr',hp⟩|⟨d,want,hg,h1,h2,hr'⟩
 ·have hw:Region.wanted o (yielded ops a.tmps)=true:=by
   rcases hg with hg|⟨d,want,hg,h1,h2⟩
   ·exact Qjk hg _
   ·rw[hgd hg h1 h2];simp
  rw[Yf hw];refine .inl (QhC hT hP hs.ok hev (fun b x hx=>(hs.H b).trans (viewB b x hx)) hr' hp (fun k hk hUk=>?_) fun E' v k1 k2=>?_)
  ·rcases hU _ hUk with h3|⟨s1,h3,h4,h5,h6⟩
   ·have:=hst.heap;have:=hfact.nm;omega
   ·rcases Nat.lt_trichotomy s1.i i with hl|hl|hl
    ·have:=before s1 h3 s hsm (by omega) (by omega);omega
    ·rw[hl,hD] at h4;cases h4
    ·have:=before s hsm s1 h3 (by omega) (by omega);omega
  ·have hsim:=hs.step (dst:=o.dst) k1 k2;refine next E' _ _ hsim (hf.step k1) (by rw[hfact.dst]) fun b hb=>(k1.U b).1 hb
 ·have hw:Region.wanted o (yielded ops a.tmps)=false:=by
   rcases h2 with h2|h2
   ·rw[hgd hg h1 h2];cases want<;>rfl
   ·exact QlA hs hg (by rw[viewT d h1];exact h2)
  rw[Yb (by rw[hw];simp)];refine next E _ _ (hs.skip o.dst) hf ?_ fun b hb=>.inl hb
  rw[hr',hfact.dst];cases o.dst<;>rfl
theorem Qtc{listed:Array Bool}{i:Nat}(hi:i<listed.size)(h:listed.getD i false=false):(listed.setIfInBounds i true).toList.count false+1=listed.toList.count false:=by
 rw[Array.toList_setIfInBounds];have hi':i<listed.toList.length:=by simpa using hi
 have e:listed.toList[i]=false:=by
  rw[YQ,Array.getElem?_eq_getElem hi] at h;simpa using h
 clear hi h;generalize listed.toList=l at hi' e
 induction l generalizing i with
 |nil=>simp at hi'
 |cons x l ih =>
  cases i with
  |zero =>
   simp at e;subst e;simp
  |succ i =>
   have:=ih (i:=i) (by simpa using hi') (by simpa using e);simp only[List.set_cons_succ,List.count_cons];omega
theorem QFv(hT:TabOk P T)(hP:Q7 P T){st stn:St}{rs:List Stp}{E0:Env}{Q:Exit→Act→World→Prop}{K:St→Prop}(hA:AncOk ops.toList As)
 (hr:Run T ops As efs 0 [] ops.toList st rs stn) (hk:K stn) (hq:∀st' E' a',Sim st' E' a'→Fr E0 E'→K st'→Q .normal a' E'.w) :
 ∀(fuel:Nat) (listed:Array Bool) (a:Act) (w:World),listed.size=ops.size→listed.toList.count false≤fuel→Inv As st rs E0 (fun k=>listed.getD k false) a w→wpAny P .any ops Q fuel listed a w:=by
 have lt:∀i,i<ops.size→∀k,Anc As i k→k<i:=by
  intro i hi k hanc;obtain⟨hrl,hidx,_,_⟩:=hr.idx;have hi':i<rs.length:=by rw[hrl];simpa using hi
  have hsi:rs[i]?=some rs[i]:=Ye hi';obtain⟨o,sti,_,hf,_⟩:=hr.at_.1 i _ hsi;have e0:=hidx i _ hsi;have e1:rs[i].i=i:=by omega
  have:=hf.lt k (by rw[e1];exact hanc);omega
 have fin:∀(listed:Array Bool) (a:Act) (w:World),listed.size=ops.size→Inv As st rs E0 (fun k=>listed.getD k false) a w→(∀i,i<ops.size→listed.getD i false=true)→Q .normal a w:=by
  intro listed a w hsz hinv hall;obtain⟨⟨st',E,rfl,hs,hf,hlen,htm,hlk,hU⟩,_⟩:=hinv;obtain⟨hrl,hidx,_,_⟩:=hr.idx;have hend:=hr.at_.2
  have hl:∀s∈rs,listed.getD s.i false=true∧s.i<0+ops.toList.length:=by
   intro s hs;obtain⟨j,hj⟩:=List.mem_iff_getElem?.1 hs;have hjl:j<rs.length:=(Yu.1 hj).1;have e:s.i=j:=by have:=hidx j s hj;omega
   rw[hrl] at hjl;refine⟨hall _ (by rw[e];simpa using hjl),by omega⟩
  refine hq stn E a (hs.congr ?_ (fun t=>?_) (fun b=>?_) fun b hb=>?_) hf hk
  ·rw[hend.len,hlen]
  ·rw[hend.tmp,htm];exact Qep fun s hs hne=>YD (by rw[(hl s hs).1];simpa using(hl s hs).2) hne
  ·rw[hend.look,hlk];exact Qep fun s hs hne=>YD (by rw[(hl s hs).1];simpa using(hl s hs).2) hne
  ·rcases hU b hb with h1|⟨s,h1,_,h2,h3⟩
   ·have:=hend.heap;omega
   ·have:=hend.add s h1 (hl s h1).2 (by omega);omega
 have ready:∀(listed:Array Bool),listed.size=ops.size→Region.ready .any ops listed=[]→∀i,i<ops.size→listed.getD i false=true:=by
  intro listed hsz hnil i
  induction i using Nat.strongRecOn with
  |_ i ih =>
   intro hi;cases hl:listed.getD i false with
   |true=>rfl
   |false =>
    exfalso
    have:i∈Region.ready .any ops listed:=by
     refine mem_ready.2 ⟨?_,ops[i],Array.getElem?_eq_getElem hi,fun e he hb=>?_⟩
     ·rw[YQ,Array.getElem?_eq_getElem (by omega)] at hl ⊢;simpa using hl
     ·have hanc:=hA.in_ i ops[i] (by rw[YA];exact Array.getElem?_eq_getElem hi) e he hb;have:=lt i hi _ hanc;exact ih _ this (by omega)
    rw[hnil] at this;cases this
 intro fuel
 induction fuel with
 |zero =>
  intro listed a w hsz hc hinv
  have hall:∀i,i<ops.size→listed.getD i false=true:=by
   intro i hi;have h0:listed.toList.count false=0:=by omega
   have h1:=List.count_eq_zero.1 h0;cases hl:listed.getD i false with
   |true=>rfl
   |false =>
    exfalso;apply h1;rw[YQ,Array.getElem?_eq_getElem (by omega)] at hl;simp at hl;rw[←hl];simp
  refine⟨?_,fin listed a w hsz hinv hall⟩;apply List.eq_nil_iff_forall_not_mem.2;intro i hi;obtain⟨h1,o,h2,_⟩:=mem_ready.1 hi;have hi':i<ops.size:=(Jg.1 h2).1;have:=hall i hi';rw[YQ,Array.getElem?_eq_getElem (by omega)] at h1 this;simp at h1 this;rw[h1] at this;cases this
 |succ fuel ih =>
  intro listed a w hsz hc hinv;refine⟨fun hnil=>fin listed a w hsz hinv (ready listed hsz hnil),fun i hi=>?_⟩;obtain⟨h1,o,h2,h3⟩:=mem_ready.1 hi;have hi':i<ops.size:=(Jg.1 h2).1
  have h1':listed.getD i false=false:=by
   rw[YQ,Array.getElem?_eq_getElem (by omega)] at h1 ⊢;simpa using h1
  refine Inv.step hT hP hr hi' h1' (fun j hj=>?_) hinv fun a' w' hinv'=>ih _ a' w' (by simpa using hsz) ?_ ?_
  ·obtain⟨e,he,hb,hor⟩:=hA.out i o (by rw[YA];exact h2) j hj;have hd:=h3 e he hb;rcases hor with rfl|hor
   ·exact hd
   ·exact hinv.closed _ _ hd hor
  ·have:=Qtc (by omega) h1';omega
  ·have:(fun k=>(listed.setIfInBounds i true).getD k false)=fun k=>listed.getD k false||Nat.beq k i:=by
    funext k;rw[YQ,YQ,Array.getElem?_setIfInBounds];by_cases hk:i=k
    ·subst hk;rw[Yf rfl,Yf (by omega)];simp
    ·have:Nat.beq k i=false:=by
      cases hb:Nat.beq k i with
      |false=>rfl
      |true=>exact YD (Yg hb).symm hk
     simp[hk,this]
   rw[this];exact hinv'
theorem Qtd(hT:TabOk P T)(hP:Q7 P T)(hm:P.follows .mixedOrders=true){m id:Nat}{st:St}{K:St→Prop}(h:exD T ops st K):DrawG P m id ops st K:=by
 refine .mk fun E0 Q E a hU hs hf hc=>?_
 obtain⟨As,h,hA⟩:=QI9 h;rw[Qs9] at h;obtain⟨rs,stn,hr,hk⟩:=Qnm ops.toList 0 lits [] [] (by simp) Qkf (fun s hs=>by cases hs) h;refine wp_region_any hm ?_;refine QFv hT hP hA hr hk (fun st' E' a' h1 h2 h3=>hc _ _ _ _ ⟨rfl,h3⟩ h1 h2) ops.size _ a _ (by simp) (by simp[List.count_replicate]) ⟨⟨st,QxC E,rfl,hs.draw,hf.draw,rfl,fun t=>?_,fun b=>?_,fun b hb=>.inl (hs.U b hb)⟩,fun k j hk=>?_⟩
 ·refine(Qci fun s _ h=>?_).symm;exfalso;rw[YQ,Array.getElem?_replicate] at h;split at h<;>simp at h
 ·refine(Qci fun s _ h=>?_).symm;exfalso;rw[YQ,Array.getElem?_replicate] at h;split at h<;>simp at h
 ·exfalso;simp only[YQ,Array.getElem?_replicate] at hk;split at hk<;>simp at hk
end
inductive TTree where
 |leaf
 |node (k:Nat) (ti:TI) (l r:TTree)
def TTree.get(t:Nat):TTree→Option TI
 |.leaf=>none
 |.node k ti l r=>match Nat.beq t k with
  |true=>some ti
  |false=>match Nat.ble t k with|true=>l.get t|false=>r.get t
def zeros(k:IntKind)(vs:List Value):Bool:=vs.all fun v=>match v with|.int k' m=>decide (k'=k)&&decide (m=0)|_=>false
def crZ:Ty→List Value→Bool
 |.int k,vs=>Nat.beq vs.length 1&&zeros k vs
 |.ints k n,vs=>Nat.beq vs.length n&&zeros k vs
 |.bool,vs=>match vs with| [.bool b]=>!b|_=>false
 |.str,vs=>match vs with| [.string s]=>decide (s=ByteArray.empty)|_=>false
 |.sl _,vs=>match vs with| [.slice none n c]=>Nat.beq n 0&&Nat.beq c 0|_=>false
 |.pair a b,vs=>crZ a (vs.take a.size)&&crZ b (vs.drop a.size)
def QJb(a b:Value):Bool:=match a,b with
 |.pointer none,.pointer none=>true
 |.nilFunc,.nilFunc=>true
 |.nilIface,.nilIface=>true
 |.map none,.map none=>true
 |.slice none n c,.slice none n' c'=>decide (n=n')&&decide (c=c')
 |.int k n,.int k' n'=>decide (k=k')&&decide (n=n')
 |.bool b,.bool b'=>b==b'
 |.string s,.string s'=>decide (s=s')
 |_,_=>false
def irZ:List Cell→List Value→Bool
 | [],vs=>vs.isEmpty
 |c::cs,vs=>match c with
  |.imm a=>(match vs with|v::vs=>QJb a v&&irZ cs vs | []=>false)
  |.run k n l=>Nat.beq (vs.take n).length n&&zeros k (vs.take n)&&decide (l=List.replicate n 0)&&irZ cs (vs.drop n)
  |.ro t l=>(match l,vs with| [],.slice none n c::vs=>Nat.beq n 0&&Nat.beq c 0&&irZ cs vs|_,_=>false)
  |_=>false
def Qd4(P:Program):List (TypeId×Nat)→List Field→Bool
 | [],[]=>true
 |(u,o)::fs,f::F=>Nat.beq f.type u&&Nat.beq f.offset o&&(P.info? f.type).isSome&&Qd4 P fs F
 |_,_=>false
def Qte(P:Program)(t:TypeId)(d:TD):Bool:=match d,P.underlying t with
 |.int k,some (.int k')=>decide (k'=k)
 |.bool,some .bool=>true
 |.str,some .string=>true
 |.slice e,some (.slice e')=>Nat.beq e' e
 |.struct fs,some (.struct F)=>Qd4 P fs F.toList
 |.array n e,some (.array n' e')=>Nat.beq n' n&&Nat.beq e' e
 |.ptr e,some (.pointer e')=>Nat.beq e' e
 |.iface,some (.interface _)=>true
 |.map k e,some (.map k' e')=>Nat.beq k' k&&Nat.beq e' e
 |.other,some d=>!QsQ d
 |_,_=>false
def QAC(P:Program)(t:TypeId)(ti:TI):Bool:=match ti.cmp with|true=>Qxh P ti.ety t|false=>true
def QAD:Value→Bool
 |.agg _=>false
 |_=>true
theorem Qtf{z:Value}(h:QAD z=true):z.cells.toList=[z]:=by cases z<;>first|rfl|cases h
def QCx(P:Program)(t:TypeId)(ti:TI):Bool:=QAC P t ti&&(Qte P t ti.desc&&match P.info? t with
 |none=>false
 |some i=>match i.zero with
  |none=>false
  |some z=>Nat.beq i.size ti.size&&Nat.beq i.bytes ti.bytes&&irZ ti.zero z.cells.toList&&Nat.beq z.cells.size ti.size&&(ti.isAgg||QAD z) &&
   match ti.ety with
   |none=>true
   |some u=>Nat.beq u.size ti.size&&crZ u z.cells.toList)
def Qe1(P:Program):TTree→Bool
 |.leaf=>true
 |.node k ti l r=>QCx P k ti&&Qe1 P l&&Qe1 P r
theorem Qg6{k:IntKind}:∀{vs:List Value},zeros k vs=true→vs=(List.replicate vs.length (0:Int)).map (.int k)
 | [],_=>rfl
 |v::vs,h=>by
  simp only[zeros,List.all_cons,Yj] at h;obtain⟨h1,h2⟩:=h;have:=Qg6 (vs:=vs) h2;cases v with
  |int k' m =>
   simp only[Yj,YB] at h1;obtain⟨rfl,rfl⟩:=h1;simp only[Yx,List.replicate_succ,Jb];rw[←this]
  |_=>simp at h1
theorem Qtg{w:World}{S:Nat→Prop}:∀{u:Ty} {vs:List Value},crZ u vs=true→CR w S u (dflt u) vs
 |.int k,vs,h=>by
  simp only[crZ,Yj] at h;have h1:=Yg h.1;have h2:=Qg6 h.2;rw[h1] at h2;show vs=[.int k 0]
  simpa using h2
 |.ints k n,vs,h=>by
  simp only[crZ,Yj] at h;have h1:=Yg h.1;have h2:=Qg6 h.2;rw[h1] at h2;exact⟨by simp[dflt],h2⟩
 |.bool,vs,h=>by
  unfold crZ at h;split at h
  ·simp at h;subst h;rfl
  ·cases h
 |.str,vs,h=>by
  unfold crZ at h;split at h
  ·simp at h;subst h;rfl
  ·cases h
 |.sl t,vs,h=>by
  unfold crZ at h;split at h
  ·simp only[Yj] at h;have h1:=Yg h.1;have h2:=Yg h.2;subst h1;subst h2;exact⟨_,rfl,none,0,rfl,YE _,fun hne=>YD rfl hne⟩
  ·cases h
 |.pair a b,vs,h=>by
  simp only[crZ,Yj] at h;exact⟨vs.take a.size,vs.drop a.size,by simp,Qtg h.1,Qtg h.2⟩
theorem QCy{a b:Value}(h:QJb a b=true):b=a∧a.oneCell'=true:=by
 unfold QJb at h;split at h<;>(try simp only[Yj,YB,beq_iff_eq] at h)
 ·exact⟨rfl,rfl⟩
 ·exact⟨rfl,rfl⟩
 ·exact⟨rfl,rfl⟩
 ·exact⟨rfl,rfl⟩
 ·obtain⟨rfl,rfl⟩:=h;exact⟨rfl,rfl⟩
 ·obtain⟨rfl,rfl⟩:=h;exact⟨rfl,rfl⟩
 ·subst h;exact⟨rfl,rfl⟩
 ·subst h;exact⟨rfl,rfl⟩
 ·cases h
theorem QoU{E:Env}:∀{cs:List Cell} {vs:List Value},irZ cs vs=true→IR E cs vs
 | [],vs,h=>by
   show vs=[]
   simpa[irZ] using h
 |c::cs,vs,h=>by
  unfold irZ at h;split at h
  ·split at h
   ·rename_i a v vs;rw[Yj] at h;obtain⟨h1,h2⟩:=h;obtain⟨rfl,h3⟩:=QCy h1;exact⟨[_],_,rfl,⟨rfl,h3⟩,QoU h2⟩
   ·cases h
  ·rename_i k n l;simp only[Yj,YB] at h;obtain⟨⟨⟨h1,h2⟩,rfl⟩,h4⟩:=h;have h1:=Yg h1;have h2:=Qg6 h2;rw[h1] at h2;exact⟨vs.take n,vs.drop n,by simp,⟨by simp,h2⟩,QoU h4⟩
  ·split at h
   ·simp only[Yj] at h;obtain⟨⟨h1,h2⟩,h3⟩:=h;have h1:=Yg h1;have h2:=Yg h2;subst h1;subst h2;exact⟨[_],_,rfl,⟨_,rfl,none,0,rfl,YE _,fun hne=>YD rfl hne⟩,QoU h3⟩
   ·cases h
  ·cases h
theorem QgO{P:Program}:∀{fs:List (TypeId×Nat)} {F:List Field},Qd4 P fs F=true →
 (∀(i:Nat) u o,fs[i]?=some (u,o)→∃f:Field,F[i]?=some f∧f.type=u∧f.offset=o)∧∀f∈F,∃i,P.info? f.type=some i
 | [],[],_=>⟨fun i u o h=>by simp at h,fun f h=>by cases h⟩
 |(u,o)::fs,f::F,h=>by
  simp only[Qd4,Yj] at h;obtain⟨⟨⟨h1,h2⟩,h3⟩,h4⟩:=h;obtain⟨h5,h6⟩:=QgO h4;refine⟨fun i u' o' hi=>?_,fun f' hf=>?_⟩
  ·cases i with
   |zero =>
    simp at hi;obtain⟨rfl,rfl⟩:=hi;exact⟨f,rfl,Yg h1,Yg h2⟩
   |succ i=>exact h5 i u' o' (by simpa using hi)
  ·rcases Yt.1 hf with rfl|hf
   ·exact Option.isSome_iff_exists.1 h3
   ·exact h6 f' hf
 | [],_::_,h=>by cases h
 |_::_,[],h=>by simp[Qd4] at h
theorem QxD{P:Program}{t:TypeId}{ti:TI}(h:QCx P t ti=true):TyOk P t ti:=by
 unfold QCx at h;rw[Yj,Yj] at h;obtain⟨h0,h1,h2⟩:=h;refine⟨?_,?_,fun hc=>by unfold QAC at h0;rw[hc] at h0;exact h0,fun hag i z hi hz=>?_⟩
 ·unfold Qte at h1;split at h1<;>rename_i hd hu<;>simp only[QZ,hd]
  ·simp only[YB] at h1;subst h1;exact hu
  ·exact hu
  ·exact hu
  ·have:=Yg h1;subst this;exact hu
  ·obtain⟨h3,h4⟩:=QgO h1;refine⟨_,hu,fun i u o hi=>?_,fun f hf=>h4 f (by simpa using hf)⟩;obtain⟨f,h5,h6⟩:=h3 i u o hi;exact⟨f,by rw[←YA];exact h5,h6⟩
  ·rw[Yj] at h1;have e1:=Yg h1.1;have e2:=Yg h1.2;subst e1;subst e2;exact hu
  ·have:=Yg h1;subst this;exact hu
  ·exact⟨_,hu⟩
  ·rw[Yj] at h1;have e1:=Yg h1.1;have e2:=Yg h1.2;subst e1;subst e2;exact hu
  ·exact⟨_,hu,by simpa using h1⟩
  ·cases h1
 ·split at h2
  ·cases h2
  ·rename_i i hi;split at h2
   ·cases h2
   ·rename_i z hz;simp only[Yj] at h2;obtain⟨⟨⟨⟨⟨e1,e2⟩,e3⟩,e4⟩,_⟩,e5⟩:=h2;refine⟨i,z,hi,Yg e1,Yg e2,hz,fun E=>QoU e3,Yg e4,fun u hu=>?_⟩;rw[hu] at e5;simp only[Yj] at e5;exact⟨Yg e5.1,fun w S=>Qtg e5.2⟩
 ·rw[hi] at h2;simp only[hz,Yj,Bool.or_eq_true] at h2;rcases h2.1.2 with h|h
  ·rw[hag] at h;cases h
  ·exact Qtf h
theorem Qgm{P:Program}:∀{T:TTree},Qe1 P T=true→∀t ti,T.get t=some ti→TyOk P t ti
 |.leaf,_,t,ti,h=>by cases h
 |.node k ti l r,h,t,ti',hg=>by
  simp only[Qe1,Yj] at h;unfold TTree.get at hg;split at hg
  ·rename_i hb;injection hg with hg
   subst hg;rw[Yg hb];exact QxD h.1.1
  ·split at hg
   ·exact Qgm h.1.2 t ti' hg
   ·exact Qgm h.2 t ti' hg
def QIt(f:Nat):List (Nat×CSpec)→Option CSpec
 | []=>none
 |(g,s)::r=>match Nat.beq f g with|true=>some s|false=>QIt f r
def tab(T:TTree)(fs:List (Nat×CSpec)):Tab:={ ty:=fun t=>T.get t,fn:=fun f=>QIt f fs,meth:=fun _ _=>none }
theorem QAE{P:Program}{T:TTree}{fs:List (Nat×CSpec)}(h:Qe1 P T=true):TabOk P (tab T fs) :=
 ⟨Qgm h,fun t name f hm=>by cases hm⟩
def QR(P:Program)(f:Nat)(s:CSpec):Prop:=CSound P f s∧Enters P f
theorem Qb{P:Program}{T:TTree}:Q7 P (tab T []):=fun f s h=>by cases h
structure EatS where
 spec:CSpec
def CSpec.eating(s:CSpec):EatS:=⟨{ s with eat:=true }⟩
theorem QR.eat{P:Program}{f:Nat}{s:CSpec}(h:QR P f s):QR P f s.eating.spec:=⟨h.1,h.2⟩
theorem Qa{P:Program}{T:TTree}{fs:List (Nat×CSpec)}{g:Nat}{s:CSpec}(h:QR P g s)(hr:Q7 P (tab T fs)):Q7 P (tab T ((g,s)::fs)):=by
 intro f s' hs;have hs:QIt f ((g,s)::fs)=some s':=hs;unfold QIt at hs;split at hs
 ·rename_i hb;injection hs with hs
  subst hs;rw[Yg hb];exact h
 ·exact hr f s' hs
inductive Go(q:Prop):Prop where
 |mk:q→Go q
theorem Go.out{q:Prop}(h:Go q):q:=by cases h;assumption
theorem NilG.go{A X B Y:Prop}(h1:A→Go X)(h2:B→Go Y):NilG A X B Y:=⟨fun h=>(h1 h).out,fun h=>(h2 h).out⟩
theorem Need.go{p q:Prop}(h1:p)(h2:Go q):Need p q:=⟨h1,h2.out⟩
theorem Br.go{b:Bool}{x y:Prop}(h1:b=true→Go x)(h2:b=false→Go y):Br b x y:=Br.mk (fun h=>(h1 h).out) (fun h=>(h2 h).out)
theorem Br.dec{p:Prop}[Decidable p]{x y:Prop}(h1:p→Go x)(h2:¬p→Go y):Br (decide p) x y :=
 Br.mk (fun h=>(h1 (Ya h)).out) (fun h=>(h2 (of_decide_eq_false h)).out)
def QIu:List AV→(List AV→Prop)→Prop
 | [],k=>k []
 |c::cs,k=>fAV c fun c=>QIu cs fun cs=>k (c::cs)
def QIv:List (Option Blk)→(List (Option Blk)→Prop)→Prop
 | [],k=>k []
 |c::cs,k=>fOB c fun c=>QIv cs fun cs=>k (c::cs)
def QgP(s:St)(k:St→Prop):Prop:=QIu s.tmps fun t=>QIv s.heap fun h=>k { tmps:=t,heap:=h }
theorem Qth:∀(l:List AV) (k:List AV→Prop),QIu l k=k l
 | [],k=>rfl
 |n::ns,k=>by unfold QIu;rw[QAx,Qth ns]
theorem Qti:∀(l:List (Option Blk)) (k:List (Option Blk)→Prop),QIv l k=k l
 | [],k=>rfl
 |n::ns,k=>by unfold QIv;rw[QAy,Qti ns]
theorem Qtj(s:St)(k:St→Prop):QgP s k=k s:=by unfold QgP;rw[Qth,Qti]
def stepM(T:Tab)(ops:Array Oper)(As:List (List Bool))(efs:List W1)(o:Oper)(i:Nat)(own:List (Nat×Nat×Nat))(st:St)(K:List (Nat×Nat×Nat)→St→Prop):Prop :=
    match QxB (Qcq As i) i&&Qnj i o ops.toList As (Qcq As i) with
    |false=>False
    |true=>fWs (Qq8 i efs As (Qcq As i) lits) fun inc =>
     match QaA ops o with
     |none=>False
     |some none=>Qaz lits st.heap st.heap.length fun nm =>
      doM T o (fun t=>Qb5 i t ops.toList As (Qcq As i) lits) (fun b=>QgW inc (Qcq As i) b own) (QsA efs i) nm st fun st' add=>K (Qfv own i nm add) st'
     |some (some (d,want))=>match QhK st (fun t=>Qb5 i t ops.toList As (Qcq As i) lits) (.tmp d) with
      |.one (.c (.imm (.bool b)))=>Br b
       (fSt (st.put (some d) (.cell (bv true))) fun st=>match want with
         |true=>Qaz lits st.heap st.heap.length fun nm =>
          doM T o (fun t=>Qb5 i t ops.toList As (Qcq As i) lits) (fun b=>QgW inc (Qcq As i) b own) (QsA efs i) nm st fun st' add=>K (Qfv own i nm add) st'
         |false=>fSt (st.put o.dst (.tup [])) fun st=>K own st)
       (fSt (st.put (some d) (.cell (bv false))) fun st=>match want with
         |false=>Qaz lits st.heap st.heap.length fun nm =>
          doM T o (fun t=>Qb5 i t ops.toList As (Qcq As i) lits) (fun b=>QgW inc (Qcq As i) b own) (QsA efs i) nm st fun st' add=>K (Qfv own i nm add) st'
         |true=>fSt (st.put o.dst (.tup [])) fun st=>K own st)
      |.tup []=>fSt (st.put o.dst (.tup [])) fun st=>K own st
      |_=>False
def QIw(T:Tab)(ops:Array Oper)(As:List (List Bool))(efs:List W1)(l:List Oper):List Nat→List (Nat×Nat×Nat)→St→(St→Prop)→Prop :=
 List.rec (motive:=fun _=>List Nat→List (Nat×Nat×Nat)→St→(St→Prop)→Prop) (fun _ _ st K=>K st) (fun o _ ih is own st K=>match is with| []=>False|i::is=>stepM T ops As efs o i own st fun own' st'=>ih is own' st' K) l
theorem Qtk(T:Tab)(ops:Array Oper)(As:List (List Bool))(efs:List W1):∀(l:List Oper) (is:List Nat) (own:List (Nat×Nat×Nat)) (st:St) (K:St→Prop),QIw T ops As efs l is own st K=exM T ops As efs l is own st K
 | [],is,own,st,K=>by cases is<;>rfl
 |o::r,[],own,st,K=>rfl
 |o::r,i::is,own,st,K=>by
  show stepM T ops As efs o i own st (fun own' st'=>QIw T ops As efs r is own' st' K)=exM T ops As efs (o::r) (i::is) own st K;have e:(fun own' st'=>QIw T ops As efs r is own' st' K)=fun own' st'=>exM T ops As efs r is own' st' K:=funext fun own'=>funext fun st'=>Qtk T ops As efs r is own' st' K
  rw[e];rfl
def QIx(T:Tab)(ops:Array Oper)(st:St)(K:St→Prop):Prop :=
 Qdy ops.toList [] fun As=>fWs (effs T st [] ops.toList) fun efs=>QIw T ops As efs ops.toList lits [] st K
theorem QCz(T:Tab)(ops:Array Oper)(st:St)(K:St→Prop):QIx T ops st K=exD T ops st K:=by
 unfold QIx exD;simp only[Qtk]
def QFw(T:Tab)(ops:Array Oper)(o:Oper)(st:St)(K:St→Prop):Prop:=match QaA ops o with
    |none=>False
    |some none=>Qaz lits st.heap st.heap.length fun nm=>Qxg T o nm st K
    |some (some (d,want))=>match st.tmp d with
     |.one (.c (.imm (.bool b)))=>Br b
       (match want with
         |true=>fSt (st.put (some d) (.cell (bv true))) fun st=>Qaz lits st.heap st.heap.length fun nm=>Qxg T o nm st K
         |false=>fSt ((st.put (some d) (.cell (bv true))).put o.dst (.tup [])) K)
       (match want with
         |false=>fSt (st.put (some d) (.cell (bv false))) fun st=>Qaz lits st.heap st.heap.length fun nm=>Qxg T o nm st K
         |true=>fSt ((st.put (some d) (.cell (bv false))).put o.dst (.tup [])) K)
     |.tup []=>fSt (st.put o.dst (.tup [])) K
     |_=>False
def QoV(T:Tab)(ops:Array Oper)(l:List Oper):St→(St→Prop)→Prop :=
 List.rec (motive:=fun _=>St→(St→Prop)→Prop) (fun st K=>K st) (fun o _ ih st K=>QFw T ops o st fun st'=>ih st' K) l
theorem QlL(T:Tab)(ops:Array Oper):∀(l:List Oper) (st:St) (K:St→Prop),QoV T ops l st K=Qge T ops l st K
 | [],st,K=>rfl
 |o::r,st,K=>by
  show QFw T ops o st (fun st'=>QoV T ops r st' K)=Qge T ops (o::r) st K;have e:(fun st'=>QoV T ops r st' K)=fun st'=>Qge T ops r st' K:=funext fun st'=>QlL T ops r st' K
  rw[e];rfl
def QJc(iy:St→Cont→Prop)(K:Cont):Cont:=fun e st'=>match e with
 |.normal=>iy st' K
 |.exit i=>K (.exit i) st'
 |.ret=>K .ret st'
 |_=>False
def QAF(id:Nat)(K:Cont):Cont:=fun e st'=>match e with
 |.normal=>K .normal st'
 |.exit i=>(match Nat.beq i id with|true=>K .normal st'|false=>K (.exit i) st')
 |.ret=>K .ret st'
 |_=>False
def QCA(c:Operand)(ix iy:St→Cont→Prop)(st:St)(K:Cont):Prop:=match st.eval c with
 |.one (.c (.imm (.bool b)))=>Br b (fSt (QFb st c true) fun st=>ix st K) (fSt (QFb st c false) fun st=>iy st K)
 |_=>False
def Qtl(P:Program)(T:Tab)(m:Nat)(id:Nat)(ops:Array Oper)(d:Bool)(st:St)(K:Cont):Prop:=match d with
 |false=>QoV T ops ops.toList st fun st'=>K .normal st'
 |true=>DrawG P m id ops st fun st'=>K .normal st'
def exR(P:Program)(T:Tab)(m:Nat)(c:Code):St→Cont→Prop :=
 Code.rec (motive:=fun _=>St→Cont→Prop) (fun st K=>K .normal st) (fun id ops d st K=>Qtl P T m id ops d st K) (fun _ _ ix iy st K=>ix st (QJc iy K)) (fun c _ _ ix iy st K=>QCA c ix iy st K)
  (fun id _ ic st K=>ic st (QAF id K)) (fun c _ st K=>LoopG P m c st K) (fun _ _ _ _ _ _ _ _=>False) (fun i st K=>K (.exit i) st) (fun _ _ _ _=>False) (fun _ st K=>K .normal st) (fun _ _ _=>False)
  (fun st K=>K .ret st) (fun _ _ _=>False) c
theorem QAG(P:Program)(T:Tab)(m:Nat):∀(c:Code) (st:St) (K:Cont),exR P T m c st K=ex P T m c st K:=by
 intro c
 induction c with
 |seq x y ihx ihy =>
  intro st K;show exR P T m x st (QJc (exR P T m y) K)=ex P T m x st _;rw[ihx];congr 1;funext e st';cases e<;>simp only[QJc,ihy]
 |cond c x y ihx ihy =>
  intro st K;show QCA c (exR P T m x) (exR P T m y) st K=ex P T m (.cond c x y) st K;have e1:(fun st=>exR P T m x st K)=fun st=>ex P T m x st K:=funext fun st=>ihx st K
  have e2:(fun st=>exR P T m y st K)=fun st=>ex P T m y st K:=funext fun st=>ihy st K
  unfold QCA;rw[e1,e2];rfl
 |block id c ih =>
  intro st K;show exR P T m c st (QAF id K)=ex P T m (.block id c) st K;rw[ih];rfl
 |region id ops d =>
  intro st K;show Qtl P T m id ops d st K=ex P T m (.region id ops d) st K;cases d with
  |false=>exact QlL T ops _ _ _
  |true=>rfl
 |_=>intro st K;rfl
def QhS(P:Program)(T:Tab)(fn:Func)(args:List V1)(bl:List Blk)(r:AV)(upd:List (Option Blk))(fresh:List Blk):Prop:=match fn.body with
 |some c=>QFa args fun args=>QqS bl fun bl=>fSt (st0 fn.ntmps args bl) fun st=>exR P T bl.length c st (QI7 P T bl.length fn r upd fresh)
 |none=>False
theorem QhT(P:Program)(T:Tab)(fn:Func)(args:List V1)(bl:List Blk)(r:AV)(upd:List (Option Blk))(fresh:List Blk):QhS P T fn args bl r upd fresh=Qjm P T fn args bl r upd fresh:=by
 unfold QhS Qjm;cases fn.body with
 |some c=>simp only[QAG]
 |none=>rfl
section
variable {P:Program} {T:Tab}
theorem Qkh(hT:TabOk P T)(hP:Q7 P T){m:Nat}{c:Code}{st:St}{K:Cont}(h:Go (QgP st fun st=>exR P T m c st K)):Does P m c st K:=by
 have:=h.out;rw[Qtj,QAG] at this;exact Qg4 hT hP c this
theorem QCB(hT:TabOk P T)(hP:Q7 P T)(hm:P.follows .mixedOrders=true){m id:Nat}{st:St}{ops:Array Oper}{K:St→Prop}(h:Go (QIx T ops st K)):DrawG P m id ops st K:=Qtd hT hP hm (by have:=h.out;rwa[QCz] at this)
theorem QxE(hT:TabOk P T)(hP:Q7 P T){m n:Nat}{c:Code}{st:St}{K:Cont}(h:Go (QgP st fun st=>exR P T m c st fun e st'=>match e with|.normal=>RoundG P m c K n st'|e=>K e st')):RoundG P m c K (n+1) st:=QFr (Qkh hT hP h)
theorem Q4(hT:TabOk P T)(hP:Q7 P T){X:Type}{m:Nat}{c:Code}{st:St}{K:Cont}(S:X→St)(I:X→Prop)(μ:X→Nat)(x0:X)(h0:Le m st (S x0))(hI:I x0)
 (h:∀x,I x→Go (QgP (S x) fun st=>exR P T m c st fun e st'=>match e with|.normal=>∃x',I x'∧μ x'<μ x∧Le m st' (S x')|e=>K e st')):LoopG P m c st K :=
 QhG S I μ x0 h0 hI fun x hx=>Qkh hT hP (h x hx)
theorem PSpec.good{f:FuncId}{fn:Func}(hT:TabOk P T)(hP:Q7 P T)(hf:P.funcs[f]?=some fn)(hn:(fn.name == "runtime.NumGoroutine")=false)(s:PSpec)(hb:fn.body.isSome=true)
 (h:QcS s.gs fun xs=>(∀q,(s.out xs).1=some q→q)→Go (QhS P T fn (QaO s.gs xs) [] (s.out xs).2.1 [] (s.out xs).2.2)):QR P f s.spec:=by
 refine PSpec.sound hT hP hf hn s ?_ hb
 have:∀(gs:List Sig) (p q:Args gs→Prop),(∀x,p x→q x)→QcS gs p→QcS gs q:=by
  intro gs
  induction gs with
  |nil=>intro p q h h1;exact h () h1
  |cons g gs ih=>intro p q h h1 a;exact ih _ _ (fun r=>h (a,r)) (h1 a)
 exact this _ _ _ (fun x hx hp=>by have:=(hx hp).out;rwa[QhT] at this) h
end
theorem Le.trans{m:Nat}{a b c:St}(h1:Le m a b)(h2:Le m b c):Le m a c:=by
 intro E0 E ac hm hs hf;obtain⟨E1,e1,s1,f1⟩:=h1 E0 E ac hm hs hf;obtain⟨E2,e2,s2,f2⟩:=h2 E0 E1 ac hm s1 f1;exact⟨E2,e2.trans e1,s2,f2⟩
theorem Le.nil{m:Nat}{st:St}(i:Nat)(t:Ty)(h:st.tmps[i]?=some (.imm (.slice none 0 0))):Le m st { tmps:=st.tmps.set i (.cell (.own st.heap.length)),heap:=Qad st.heap st.heap.length (some (.arr t [])) }:=by
 intro E0 E a hm hs hf;have hU:¬E.U st.heap.length:=fun hu=>by have:=hs.U _ hu;omega
 have hstep:Step E { pre:=none,val:=.cell (.own st.heap.length),add:=[.arr t []],set:=[] } st.heap.length (Qcb E [] st.heap.length t):=Step.nil (us:=[]) hs.ok rfl rfl hU;obtain⟨v,hv1,hv2⟩:=hs.tmp i _ h;obtain⟨e,_⟩:=hv2;injection e with e
 subst e;have hsim:=hs.step (dst:=some i) hstep (Qft E [] st.heap.length t);refine⟨Qcb E [] st.heap.length t,rfl,?_,hf.step hstep⟩
 have ha:a.put (some i) (.slice none 0 0)=a:=by
  obtain⟨tm,df⟩:=a;simp only[Act.put,Act.mk.injEq,and_true];apply Array.ext_getElem?;intro j;rw[Array.getElem?_setIfInBounds];by_cases hj:i=j
  ·subst hj;have hv1:tm[i]?=some (.slice none 0 0):=hv1;rw[hv1];simp;exact(Jg.1 hv1).1
  ·simp[hj]
 rw[ha] at hsim;exact hsim
theorem Q8(x y:Int):imax x y=max x y:=by unfold imax;omega
theorem QS(x y:Int):imin x y=min x y:=by unfold imin;omega
theorem Qd{k:IntKind}{n m:Int}(h:n=m):AV.one (V1.c (.imm (.int k n)))=AV.one (V1.c (.imm (.int k m))):=by rw[h]
theorem Qj{n m:Bool}(h:n=m):AV.one (V1.c (.imm (.bool n)))=AV.one (V1.c (.imm (.bool m))):=by rw[h]
theorem QiZ{t:Ty}{n m:List (Den t)}(h:n=m):AV.one (V1.c (.ro t n))=AV.one (V1.c (.ro t m)):=by rw[h]
@[reducible] def E1(l:List AV):List AV:=.dead::l
@[reducible] def E2(l:List AV):List AV:=.dead::.dead::l
@[reducible] def E3(l:List AV):List AV:=.dead::.dead::.dead::l
@[reducible] def E5(l:List AV):List AV:=.dead::.dead::.dead::.dead::.dead::l
@[reducible] def E10(l:List AV):List AV:=.dead::.dead::.dead::.dead::.dead::.dead::.dead::.dead::.dead::.dead::l
@[reducible] def E20(l:List AV):List AV:=.dead::.dead::.dead::.dead::.dead::.dead::.dead::.dead::.dead::.dead::.dead::.dead::.dead::.dead::.dead::.dead::.dead::.dead::.dead::.dead::l
@[reducible] def E40(l:List AV):List AV:=.dead::.dead::.dead::.dead::.dead::.dead::.dead::.dead::.dead::.dead::.dead::.dead::.dead::.dead::.dead::.dead::.dead::.dead::.dead::.dead::.dead::.dead::.dead::.dead::.dead::.dead::.dead::.dead::.dead::.dead::.dead::.dead::.dead::.dead::.dead::.dead::.dead::.dead::.dead::.dead::l
theorem R{α:Type _}{a:α}:a=a:=rfl
theorem tabs{P:Program}{T:TTree}{fs:List (Nat×CSpec)}(hP:Q7 P (tab T fs))(h:Qe1 P T=true):TabOk P (tab T fs):=QAE h
theorem Ea{q:Prop}(h:q):Go q:=⟨h⟩
theorem Eb{p q:Prop}(h1:p)(h2:Go q):Need p q:=⟨h1,h2.out⟩
inductive Im(a q:Prop):Prop where
 |mk (h:a→q):Im a q
theorem Im.o{a q:Prop}(h:Im a q):a→q:=by cases h;assumption
theorem Ei{a q:Prop}(h:a→q):Im a q:=⟨h⟩
theorem Ec{A X B Y:Prop}(h1:Im A (Go X))(h2:Im B (Go Y)):NilG A X B Y:=NilG.go h1.o h2.o
theorem Ed{p:Prop}[Decidable p]{x y:Prop}(h1:Im p (Go x))(h2:Im (¬p) (Go y)):Br (decide p) x y:=Br.dec h1.o h2.o
theorem Ee{b:Bool}{x y:Prop}(h1:Im (b=true) (Go x))(h2:Im (b=false) (Go y)):Br b x y:=Br.go h1.o h2.o
theorem Eg{P:Program}{T:Tab}(hT:TabOk P T)(hP:Q7 P T){m n:Nat}{c:Code}{st:St}{K:Cont}(h:Go (QgP st fun st=>exR P T m c st fun e st'=>match e with|.normal=>RoundG P m c K n st'|e=>K e st')):RoundG P m c K (n+1) st:=QxE hT hP h
theorem PSpec.gd{P:Program}{T:Tab}{f:FuncId}{fn:Func}(hT:TabOk P T)(hP:Q7 P T)(hf:P.funcs[f]?=some fn)(s:PSpec)(h:QcS s.gs fun xs=>(∀q,(s.out xs).1=some q→q)→Go (QhS P T fn (QaO s.gs xs) [] (s.out xs).2.1 [] (s.out xs).2.2))(hn:(fn.name == "runtime.NumGoroutine")=false:=by kernel_rfl)(hb:fn.body.isSome=true:=by rfl):QR P f s.spec:=s.good hT hP hf hn hb h
theorem Ends.k{P:Program}{T:Tab}{m:Nat}{fn:Func}{r:AV}{upd:List (Option Blk)}{fresh:List Blk}{st:St}(us acc:List Nat)(v:AV)(h:(QoN T st fn.results.toList,QeO m acc,QoL st.look us acc acc,inN acc (fzA st.look us v).names,Nat.beq upd.length m,wkH st.look us acc)=(some v,true,true,true,true,upd++fresh.map some))(he:(fzA st.look us v).rn (idx acc)=r):Ends P T m fn r upd fresh st:=by
 injection h with h1 h;injection h with h2 h;injection h with h3 h;injection h with h4 h;injection h with h5 h6
 exact .mk us acc v h1 h2 h3 h4 h5 h6 he
theorem Le.k{m:Nat}{st st':St}(us acc:List Nat)(h:QeO m acc=true∧QoL st.look us acc acc=true∧wkH st.look us acc=st'.heap∧leT st.look us acc st.tmps st'.tmps):Le m st st':=.mk us acc h.1 h.2.1 h.2.2.1 h.2.2.2
theorem Ex{L:Prop}{e:Int}{A:Type}{J:A→Prop}{m:Nat}{st:St}{S:Int→A→St}{i:Int}(a:A)(us acc:List Nat)(h:QeO m acc=true∧QoL st.look us acc acc=true∧wkH st.look us acc=(S i a).heap∧leT st.look us acc st.tmps (S i a).tmps)(l:L)(ei:i=e)(hj:J a):∃i a,(L∧i=e∧J a)∧Le m st (S i a):=⟨i,a,⟨l,ei,hj⟩,.k us acc h⟩
open Go.RowKit
def QdM(W:World):Env:={ w:=W,ρ:=fun _=>none,S:=fun g=>g<W.heap.size,H:=fun _=>none,U:=fun _=>False }
theorem Qtm(W:World):HeapOk (QdM W):=⟨fun b x h=>(by cases h),fun b b' x x' g h=>(by cases h),fun g h=>h⟩
theorem CSound.start{P:Program}{f:FuncId}{s:CSpec}(h:CSound P f s){vs:Array Value}{args:List V1}{W:World}{p:Option Prop}{r:AV}{fresh:List Blk}(hv:VsR (QdM W) args vs.toList)
 (hrun:s.run args []=some (p,r,[],fresh)) (hp:∀q,p=some q→q):Calls P f vs W fun e w'=>(∃v E',e=.returned v∧E'.w=w'∧AVR E' r v)∧Below W.heap.size W w':=by
 refine(h (QdM W) vs args [] p r [] fresh (fun b=>by simp[QdM]) (fun b=>by simp[QdM]) (Qtm W) hv hrun hp).mono ?_
 rintro e w' ⟨v,E',rfl,rfl,hb⟩
 refine⟨⟨v,E',rfl,rfl,hb.val⟩,hb.fr.os,hb.fr.tape,hb.fr.output,hb.fr.size,fun k hk=>hb.fr.old k hk ?_⟩
 rintro ⟨b,x,hx,_⟩
 cases hx
theorem PSpec.law{P:Program}{f:FuncId}{s:PSpec}(h:QR P f s.spec){vs:Array Value}{W:World}(xs:Args s.gs)(hv:VsR (QdM W) (QaO s.gs xs) vs.toList)(hd:Qdx s.gs (QaO s.gs xs)=some xs)
 {p:Option Prop} (ht:s.out xs=(p,.cell (bv true),[])) (hp:∀q,p=some q→q):Calls P f vs W fun e w'=>e=.returned (.bool true)∧Below W.heap.size W w':=by
 have hrun:s.spec.run (QaO s.gs xs) []=some (p,.cell (bv true),[],[]):=by
  unfold PSpec.spec;simp only[hd,ht]
 refine(h.1.start hv hrun hp).mono ?_
 rintro e w' ⟨⟨v,E',rfl,rfl,hr⟩,hb⟩
 refine⟨?_,hb⟩;obtain⟨e,_⟩:=hr;injection e with e
 rw[e]
theorem VsR.cons{E:Env}{x:V1}{xs:List V1}{v:Value}{vs:List Value}(h:V1R E x v)(hs:VsR E xs vs):VsR E (x::xs) (v::vs):=⟨v,vs,rfl,h,hs⟩
theorem VsR.nil{E:Env}:VsR E [] []:=rfl
theorem V1R.int{E:Env}(k:IntKind)(n:Int):V1R E (.c (.imm (.int k n))) (.int k n):=⟨rfl,rfl⟩
theorem V1R.bool{E:Env}(b:Bool):V1R E (.c (.imm (.bool b))) (.bool b):=⟨rfl,rfl⟩
end Go.Fw

