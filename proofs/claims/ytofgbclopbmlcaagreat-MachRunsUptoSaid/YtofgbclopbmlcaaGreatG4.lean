/- Part 4 of the proof: Fw21 Fw22 Fw23 Fw24 Fw25 Fw26 Fw27 Fw28. No statement is handed in here; conditions: none. -/
import Derived.Test.YtofgbclopbmlcaaGreatG3
import Derived.Tactics
import Derived.LoopN
namespace Go.Fw
set_option linter.unusedVariables false
set_option linter.unusedSimpArgs false
abbrev Cont:=Exit→St→Prop
def Cov (K:Cont) (E0:Env) (Q:Exit→Act→World→Prop):Prop :=
 ∀ e st' E' a',K e st'→Sim st' E' a'→Fr E0 E'→Q e a' E'.w
def Does (P:Program) (m:Nat) (c:Code) (st:St) (K:Cont):Prop :=
 ∀ E0 Q E a,(∀ b,E0.U b→b < m)→Sim st E a→Fr E0 E→Cov K E0 Q→c.wp P Q a E.w
inductive QmW (P:Program) (m:Nat) (c:Code) (st:St) (K:Cont):Prop where
 |mk:Does P m (.loop c) st K→QmW P m c st K
inductive QuF (P:Program) (m:Nat) (id:Nat) (ops:Array Oper) (st:St) (K:St→Prop):Prop where
 |mk:Does P m (.region id ops true) st (fun e st'=>e=.normal∧K st')→QuF P m id ops st K
def QBu (st:St) (c:Operand) (b:Bool):St:=match c with |.tmp t=>st.put (some t) (.cell (bv b)) |_=>st
def ex (P:Program) (T:Tab) (m:Nat):Code→St→Cont→Prop
 |.skip,st,K=>K .normal st
 |.label _,st,K=>K .normal st
 |.seq x y,st,K=>ex P T m x st fun e st'=>match e with
   |.normal=>ex P T m y st' K
   |.exit i=>K (.exit i) st'
   |.ret=>K .ret st'
   |_=>False
 |.cond c x y,st,K=>match st.eval c with
   |.one (.c (.imm (.bool b)))=>Br b (fSt (QBu st c true) fun st=>ex P T m x st K) (fSt (QBu st c false) fun st=>ex P T m y st K)
   |_=>False
 |.block id c,st,K=>ex P T m c st fun e st'=>match e with
   |.normal=>K .normal st'
   |.exit i=>(match Nat.beq i id with |true=>K .normal st' |false=>K (.exit i) st')
   |.ret=>K .ret st'
   |_=>False
 |.loop c,st,K=>QmW P m c st K
 |.exit i,st,K=>K (.exit i) st
 |.ret,st,K=>K .ret st
 |.region id ops d,st,K=>match d with
   |false=>Qfr T ops ops.toList st fun st'=>K .normal st'
   |true=>QuF P m id ops st fun st'=>K .normal st'
 |_,_,_=>False
section
variable {P:Program} {T:Tab}
theorem Sim.lit {st:St} {E:Env} {a:Act} (h:Sim st E a) {c:Operand} {b:Bool} (hc:st.eval c=.one (.c (.imm (.bool b)))):Sim (QBu st c b) E a∧a.eval c=.bool b:=by
 have h1:=h.eval c
 rw [hc] at h1
 obtain ⟨h1,_⟩:=h1
 injection h1 with h1
 refine ⟨?_,h1⟩
 unfold QBu
 split
 ·rename_i t
  refine h.same ?_
  have:a.tmps.getD t undef=.bool b:=h1
  rw [this]
  exact ⟨rfl,rfl⟩
 ·exact h
theorem Qgj (hT:Qae P T) (hP:Qe P T) {m:Nat}:∀ (c:Code) {st:St} {K:Cont},ex P T m c st K→Does P m c st K:=by
 intro c
 induction c with
 |skip=>intro st K h E0 Q E a hm hs hf hc;exact wp_skip (hc _ _ _ _ h hs hf)
 |label l=>intro st K h E0 Q E a hm hs hf hc;exact wp_label (hc _ _ _ _ h hs hf)
 |exit i=>intro st K h E0 Q E a hm hs hf hc;exact wp_exit (hc _ _ _ _ h hs hf)
 |ret=>intro st K h E0 Q E a hm hs hf hc;exact wp_ret (hc _ _ _ _ h hs hf)
 |seq x y hx hy =>
   intro st K h E0 Q E a hm hs hf hc
   unfold ex at h
   refine wp_seq (hx h E0 _ E a hm hs hf ?_)
   intro e st' E' a' hk hs' hf'
   cases e with
   |normal=>exact hy hk E0 Q E' a' hm hs' hf' hc
   |exit i=>exact hc _ _ _ _ hk hs' hf'
   |ret=>exact hc _ _ _ _ hk hs' hf'
   |goto l=>exact hk.elim
   |panic ch=>exact hk.elim
   |outgrown=>exact hk.elim
 |cond c x y hx hy =>
   intro st K h E0 Q E a hm hs hf hc
   unfold ex at h
   split at h
   ·rename_i b hb
    obtain ⟨hs',he⟩:=hs.lit hb
    rw [QaW,QaW] at h
    cases b with
    |true=>exact wp_cond_true he (hx h E0 Q E a hm hs' hf hc)
    |false=>exact wp_cond_false he (hy h E0 Q E a hm hs' hf hc)
   ·exact h.elim
 |block id c hx =>
   intro st K h E0 Q E a hm hs hf hc
   unfold ex at h
   refine wp_block (hx h E0 _ E a hm hs hf ?_)
   intro e st' E' a' hk hs' hf'
   cases e with
   |normal=>exact hc _ _ _ _ hk hs' hf'
   |exit i =>
     simp only [Exit.inBlock]
     simp only at hk
     split at hk
     ·rename_i hb
      rw [if_pos (Nat.eq_of_beq_eq_true hb)]
      exact hc _ _ _ _ hk hs' hf'
     ·rename_i hb
      rw [if_neg (fun e=>by subst e;simp at hb)]
      exact hc _ _ _ _ hk hs' hf'
   |ret=>exact hc _ _ _ _ hk hs' hf'
   |goto l=>exact hk.elim
   |panic ch=>exact hk.elim
   |outgrown=>exact hk.elim
 |loop c hx=>intro st K h;cases h with |mk h=>exact h
 |region id ops d =>
   intro st K h E0 Q E a hm hs hf hc
   unfold ex at h
   cases d with
   |true =>
     cases h with
     |mk h =>
       refine h E0 Q E a hm hs hf ?_
       rintro e st' E' a' ⟨rfl,hk⟩ hs' hf'
       exact hc _ _ _ _ hk hs' hf'
   |false =>
     refine wp_region ?_
     rw [List.range_eq_range']
     have:=QbX (Q:=Q) hT hP ops.toList 0 (by simp) h hs hf fun st' E' a' h1 h2 h3=>hc _ _ _ _ h3 h1 h2
     simpa using this
 |_=>intro st K h;exact h.elim
theorem Ql1 {p:Nat→Prop} (h:∃ n,p n):∃ n,p n∧∀ k,p k→n≤k:=by
 obtain ⟨n,hn⟩:=h
 induction n using Nat.strongRecOn with
 |_ n ih =>
   by_cases hs:∃ k,k < n∧p k
   ·obtain ⟨k,hk,hp⟩:=hs;exact ih k hk hp
   ·exact ⟨n,hn,fun k hk=>by rcases Nat.lt_or_ge k n with h |h;exact absurd ⟨k,h,hk⟩ hs;exact h⟩
open Classical in
noncomputable def least (p:Nat→Prop):Nat:=if h:∃ n,p n then Classical.choose (Ql1 h) else 0
theorem Qu3 {p:Nat→Prop} (h:∃ n,p n):p (least p):=by
 unfold least;rw [dif_pos h];exact (Classical.choose_spec (Ql1 h)).1
theorem Qu4 {p:Nat→Prop} {n:Nat} (h:p n):least p≤n:=by
 unfold least;rw [dif_pos ⟨n,h⟩];exact (Classical.choose_spec (Ql1 ⟨n,h⟩)).2 n h
def Le (m:Nat) (st st':St):Prop :=
 ∀ E0 E a,(∀ b,E0.U b→b < m)→Sim st E a→Fr E0 E→∃ E',E'.w=E.w∧Sim st' E' a∧Fr E0 E'
theorem Le.refl (m:Nat) (st:St):Le m st st:=fun E0 E a _ hs hf=>⟨E,rfl,hs,hf⟩
theorem Qkm {X:Type} {m:Nat} {c:Code} {st:St} {K:Cont} (S:X→St) (I:X→Prop) (μ:X→Nat) (x0:X) (h0:Le m st (S x0)) (hI:I x0)
 (h:∀ x,I x→Does P m c (S x) fun e st'=>match e with |.normal=>∃ x',I x'∧μ x' < μ x∧Le m st' (S x') |e=>K e st'):QmW P m c st K:=by
 refine .mk fun E0 Q E a hm hs hf hc=>?_
 let at_:Act→World→Nat→Prop:=fun a w n=>∃ x E,I x∧μ x=n∧E.w=w∧Sim (S x) E a∧Fr E0 E
 refine wp_loop (fun a w=>∃ n,at_ a w n) (fun a w=>least (at_ a w)) ?_ ?_
 ·obtain ⟨E',e,h1,h2⟩:=h0 E0 E a hm hs hf
  exact ⟨_,x0,E',hI,rfl,e,h1,h2⟩
 ·intro a w hn
  obtain ⟨x,E,hIx,hμ,rfl,h1,h2⟩:=Qu3 hn
  refine h x hIx E0 _ E a hm h1 h2 ?_
  intro e st' E' a' hk hs' hf'
  cases e with
  |normal =>
    obtain ⟨x',hI',hlt,hle⟩:=hk
    obtain ⟨E'',e,h3,h4⟩:=hle E0 E' a' hm hs' hf'
    have hat:at_ a' E'.w (μ x'):=⟨x',E'',hI',rfl,e,h3,h4⟩
    refine ⟨⟨_,hat⟩,?_⟩
    have:=Qu4 hat
    show least (at_ a' E'.w) < least (at_ a E.w)
    rw [← hμ]
    omega
  |_=>exact hc _ _ _ _ hk hs' hf'
def RD (P:Program) (m:Nat) (c:Code) (K:Cont):Nat→St→Prop
 |0,_=>False
 |n+1,st=>Does P m c st fun e st'=>match e with |.normal=>RD P m c K n st' |e=>K e st'
inductive QiB (P:Program) (m:Nat) (c:Code) (K:Cont) (n:Nat) (st:St):Prop where
 |mk:RD P m c K n st→QiB P m c K n st
theorem Qkn {m:Nat} {c:Code} {K:Cont} {E0:Env} {Q:Exit→Act→World→Prop} (hm:∀ b,E0.U b→b < m) (hc:Cov K E0 Q):∀ (n:Nat) {st:St} {E:Env} {a:Act},RD P m c K n st→Sim st E a→Fr E0 E→Code.rounds P c Q n a E.w
 |0,_,_,_,h,_,_=>h.elim
 |n+1,st,E,a,h,hs,hf=>by
   refine h E0 _ E a hm hs hf ?_
   intro e st' E' a' hk hs' hf'
   cases e with
   |normal=>exact Qkn hm hc n hk hs' hf'
   |_=>exact hc _ _ _ _ hk hs' hf'
theorem QZ {m:Nat} {c:Code} {st:St} {K:Cont} (n:Nat) (h:QiB P m c K n st):QmW P m c st K :=
 .mk fun E0 Q E a hm hs hf hc=>wp_loop_rounds n (by cases h with |mk h=>exact Qkn hm hc n h hs hf)
theorem QBH {m n:Nat} {c:Code} {st:St} {K:Cont} (h:Does P m c st fun e st'=>match e with |.normal=>QiB P m c K n st' |e=>K e st'):QiB P m c K (n+1) st:=by
 refine .mk fun E0 Q E a hm hs hf hc=>h E0 Q E a hm hs hf ?_
 intro e st' E' a' hk hs' hf'
 refine hc e st' E' a' ?_ hs' hf'
 cases e with
 |normal=>cases hk with |mk hk=>exact hk
 |_=>exact hk
theorem Does.mono {m:Nat} {c:Code} {st:St} {K K':Cont} (h:Does P m c st K) (hk:∀ e st',K e st'→K' e st'):Does P m c st K' :=
 fun E0 Q E a hm hs hf hc=>h E0 Q E a hm hs hf fun e st' E' a' h1 h2 h3=>hc e st' E' a' (hk _ _ h1) h2 h3
end
def memN (b:Nat):List Nat→Bool
 | []=>false
 |x :: r=>match Nat.beq b x with |true=>true |false=>memN b r
theorem Qdz {b:Nat}:∀ {l:List Nat},memN b l=true→b ∈ l
 | [],h=>by cases h
 |x :: r,h=>by
   unfold memN at h
   split at h
   ·rename_i hb;rw [Nat.eq_of_beq_eq_true hb];simp
   ·exact List.mem_cons_of_mem _ (Qdz h)
theorem Qfx {b:Nat}:∀ {l:List Nat},memN b l=false→b ∉ l
 | [],h=>by simp
 |x :: r,h=>by
   unfold memN at h
   split at h
   ·cases h
   ·rename_i hb
    have:=Qfx h
    intro hm
    rcases List.mem_cons.1 hm with rfl |hm
    ·simp at hb
    ·exact this hm
section
variable (look:Nat→Option Blk) (us:List Nat)
def fzC (c:QD):QD:=match c with
 |.own b=>match memN b us with
   |true=>match Qak look (.own b) with |some ⟨t,l⟩=>.ro t l |none=>.own b
   |false=>.own b
 |.sub b o n=>match memN b us with
   |true=>match Qak look (.sub b o n) with |some ⟨t,l⟩=>.ro t l |none=>.sub b o n
   |false=>.sub b o n
 |c=>c
def fzV:V1→V1
 |.c x=>.c (fzC look us x)
 |.agg cs=>.agg (cs.map (fzC look us))
def fzA:AV→AV
 |.dead=>.dead
 |.one v=>.one (fzV look us v)
 |.tup l=>.tup (l.map (fzV look us))
def fzB:Blk→Blk
 |.arr t l=>.arr t l
 |.var cs=>.var (cs.map (fzC look us))
 |.mp ka kt vt l=>.mp ka kt vt l
def inN (acc:List Nat):List Nat→Bool
 | []=>true
 |x :: r=>match memN x acc with |true=>inN acc r |false=>false
def Qnr:List Nat→Bool
 | []=>true
 |x :: r=>match memN x r with |true=>false |false=>Qnr r
def Qu5:Nat→Nat→List Nat→Bool
 |0,_,_=>true
 |_+1,_,[]=>false
 |m+1,k,x :: r=>match Nat.beq x k with |true=>Qu5 m (k+1) r |false=>false
def Qko (m:Nat) (acc:List Nat):Bool:=match Qnr acc with |true=>Qu5 m 0 acc |false=>false
def Qu6 (acc:List Nat):List Nat→Bool
 | []=>true
 |n :: r=>match memN n us with
   |true=>Qu6 acc r
   |false=>match look n with
     |some x=>(match inN acc (fzB look us x).names with |true=>Qu6 acc r |false=>false)
     |none=>Qu6 acc r
def wkB (acc:List Nat) (n:Nat):Option Blk:=match memN n us with
 |true=>none
 |false=>match look n with
   |some x=>some ((fzB look us x).rn (idx acc))
   |none=>none
def wkH (acc:List Nat):List (Option Blk):=acc.map (wkB look us acc)
end
theorem Ql2 {acc:List Nat}:∀ {l:List Nat},inN acc l=true→∀ x ∈ l,x ∈ acc
 | [],_,x,hx=>by cases hx
 |y :: r,h,x,hx=>by
   unfold inN at h
   split at h
   ·rename_i hy
    rcases List.mem_cons.1 hx with rfl |hx
    ·exact Qdz hy
    ·exact Ql2 h x hx
   ·cases h
theorem Qkp:∀ {l:List Nat},Qnr l=true→l.Nodup
 | [],_=>List.nodup_nil
 |x :: r,h=>by
   unfold Qnr at h
   split at h
   ·cases h
   ·rename_i hx
    exact List.nodup_cons.2 ⟨Qfx hx,Qkp h⟩
theorem Qns:∀ {m k:Nat} {l:List Nat},Qu5 m k l=true→∀ i,i < m→l[i]?=some (k+i)
 |0,_,_,_,i,hi=>by omega
 |_+1,_,[],h,_,_=>by cases h
 |m+1,k,x :: r,h,i,hi=>by
   unfold Qu5 at h
   split at h
   ·rename_i hx
    cases i with
    |zero=>simp [Nat.eq_of_beq_eq_true hx]
    |succ i=>have:=Qns h i (by omega);simp [this];omega
   ·cases h
theorem Qq6 {m:Nat} {acc:List Nat} (h:Qko m acc=true):acc.Nodup∧∀ i,i < m→acc[i]?=some i:=by
 unfold Qko at h
 split at h
 ·rename_i h1
  exact ⟨Qkp h1,fun i hi=>by have:=Qns h i hi;simpa using this⟩
 ·cases h
theorem Qq7 {look:Nat→Option Blk} {us acc:List Nat}:∀ {l:List Nat},Qu6 look us acc l=true→∀ n ∈ l,n ∉ us→∀ x,look n=some x→∀ k ∈ (fzB look us x).names,k ∈ acc
 | [],_,n,hn=>by cases hn
 |y :: r,h,n,hn=>by
   intro hu x hx k hk
   unfold Qu6 at h
   rcases List.mem_cons.1 hn with rfl |hn
   ·split at h
    ·rename_i hm;exact absurd (Qdz hm) hu
    ·rw [hx] at h
     simp only at h
     split at h
     ·rename_i hi;exact Ql2 hi k hk
     ·cases h
   ·have:Qu6 look us acc r=true:=by
     split at h
     ·exact h
     ·split at h
      ·split at h
       ·exact h
       ·cases h
      ·exact h
    exact Qq7 this n hn hu x hx k hk
section
variable {E:Env} {look:Nat→Option Blk} {us:List Nat}
theorem Qq8 (hH:Qt E) (hl:∀ b,E.H b=look b) {c:QD} {vs:List Value} (hc:QaC E c vs):QaC (QM E us) (fzC look us c) vs:=by
 have hl':∀ b x,look b=some x→E.H b=some x:=fun b x h=>(hl b).trans h
 have key:∀ {c:QD} {t:Ty} {l:List (Den t)} {v:Value},(∀ n ∈ c.names,n ∈ us)→Qak look c=some ⟨t,l⟩→QaC E c [v]→QaC (QM E us) (.ro t l) [v]:=by
  intro c t l v hn h hc
  refine ⟨v,rfl,?_⟩
  exact (QbU hH hl' h hc).mono (fun g hg=>⟨SU.mono hn hg,rfl⟩) fun _ _ hx=>hx.su
 unfold fzC
 split
 ·rename_i b
  split
  ·rename_i hb
   split
   ·rename_i t l hs
    have hc':=hc
    obtain ⟨v,⟨e,_⟩,_⟩:=hc'
    subst e
    exact key (fun n hn=>by simp [QD.names] at hn;subst hn;exact Qdz hb) hs hc
   ·exact hc.ext (Q8 us)
  ·exact hc.ext (Q8 us)
 ·rename_i b o n
  split
  ·rename_i hb
   split
   ·rename_i t l hs
    have hc':=hc
    obtain ⟨v,⟨e,_⟩,_⟩:=hc'
    subst e
    exact key (fun n hn=>by simp [QD.names] at hn;subst hn;exact Qdz hb) hs hc
   ·exact hc.ext (Q8 us)
  ·exact hc.ext (Q8 us)
 ·exact hc.ext (Q8 us)
theorem QEC (hH:Qt E) (hl:∀ b,E.H b=look b):∀ {cs:List QD} {vs:List Value},IR E cs vs→IR (QM E us) (cs.map (fzC look us)) vs
 | [],_,h=>h
 |_ :: _,_,⟨r,s,e,h1,h2⟩=>⟨r,s,e,Qq8 hH hl h1,QEC hH hl h2⟩
theorem Qq9 (hH:Qt E) (hl:∀ b,E.H b=look b):{x:V1}→{v:Value}→V1R E x v→V1R (QM E us) (fzV look us x) v
 |.c _,_,h=>Qq8 hH hl h
 |.agg _,_,⟨vals,e,h⟩=>⟨vals,e,QEC hH hl h⟩
theorem QGl (hH:Qt E) (hl:∀ b,E.H b=look b):∀ {xs:List V1} {vs:List Value},VsR E xs vs→VsR (QM E us) (xs.map (fzV look us)) vs
 | [],_,h=>h
 |_ :: _,_,⟨r,s,e,h1,h2⟩=>⟨r,s,e,Qq9 hH hl h1,QGl hH hl h2⟩
theorem Qze (hH:Qt E) (hl:∀ b,E.H b=look b):{x:AV}→{v:Value}→AVR E x v→AVR (QM E us) (fzA look us x) v
 |.dead,_,_=>trivial
 |.one _,_,h=>Qq9 hH hl h
 |.tup _,_,⟨vs,e,h⟩=>⟨vs,e,QGl hH hl h⟩
theorem Qu7 (c:QD):(fzC look us c).size=c.size:=by
 unfold fzC
 split
 ·split
  ·split<;>rfl
  ·rfl
 ·split
  ·split<;>rfl
  ·rfl
 ·rfl
theorem Qkq (x:Blk):shape (fzB look us x)=shape x:=by
 cases x with
 |arr t l=>rfl
 |var cs =>
   simp only [fzB,shape,List.map_map]
   congr 1
   apply List.map_congr_left
   intro c _
   exact Qu7 c
 |mp _ _ _ _=>rfl
theorem Qzf (hH:Qt E) (hl:∀ b,E.H b=look b) {b:Nat} {x:Blk} (hx:Qm6 E b x):Qm6 (QM E us) b (fzB look us x):=by
 cases x with
 |arr t l =>
   rcases hx with h |⟨g,cs,el,vs,spare,h1,h2,h3,h4⟩
   ·exact .inl h
   ·exact .inr ⟨g,cs,el,vs,spare,h1,h2,h3,h4.mono fun _ _ hx=>hx.su⟩
 |var is =>
   obtain ⟨g,cs,el,h1,h2,h3⟩:=hx
   exact ⟨g,cs,el,h1,h2,QEC hH hl h3⟩
 |mp ka kt vt l=>exact hx
end
def QhN (E:Env) (look:Nat→Option Blk) (us acc:List Nat):Env :=
 { w:=E.w,ρ:=fun i=>(acc[i]?).bind E.ρ,S:=SU E us,H:=fun b=>match (wkH look us acc)[b]? with |some x=>x |none=>none,U:=fun i=>i < acc.length }
theorem Qfy {E:Env} {look:Nat→Option Blk} {us acc:List Nat} {b:Nat} {x:Blk} (h:(QhN E look us acc).H b=some x) :
 ∃ n y,acc[b]?=some n∧n ∉ us∧look n=some y∧x=(fzB look us y).rn (idx acc):=by
 have h:(match (wkH look us acc)[b]? with |some x=>x |none=>none)=some x:=h
 unfold wkH at h
 rw [List.getElem?_map] at h
 cases hb:acc[b]? with
 |none=>rw [hb] at h;cases h
 |some n =>
   rw [hb] at h
   simp only [Option.map_some] at h
   unfold wkB at h
   split at h
   ·cases h
   ·rename_i hn
    split at h
    ·rename_i y hy
     injection h with h
     exact ⟨n,y,rfl,Qfx hn,hy,h.symm⟩
    ·cases h
theorem weak {m:Nat} {E0 E:Env} {look:Nat→Option Blk} {us acc:List Nat} (hm:∀ b,E0.U b→b < m) (hH:Qt E) (hl:∀ b,E.H b=look b) (hf:Fr E0 E)
 (c1:Qko m acc=true) (c2:Qu6 look us acc acc=true) :
 Qt (QhN E look us acc)∧Fr E0 (QhN E look us acc)∧∀ x v,inN acc (fzA look us x).names=true→AVR E x v→AVR (QhN E look us acc) ((fzA look us x).rn (idx acc)) v:=by
 obtain ⟨hn,hpre⟩:=Qq6 c1
 have hk:=QeN hH us
 have kH:∀ n y,n ∉ us→look n=some y→(QM E us).H n=some y:=fun n y h1 h2=>by
  show (if n ∈ us then none else E.H n)=some y
  rw [if_neg h1,hl,h2]
 have rnat:∀ b ∈ acc,QuV (QM E us) (QhN E look us acc) (idx acc) b:=by
  intro b hb _
  have h1:=Qdy hn hb
  refine ⟨(List.getElem?_eq_some_iff.1 h1).1,fun x hx=>?_⟩
  obtain ⟨n,y,h2,h3,h4,rfl⟩:=Qfy hx
  rw [h1] at h2
  injection h2 with h2
  subst h2
  refine ⟨y,kH _ _ h3 h4,by rw [Qco,Qkq],?_⟩
  show (acc[idx acc b]?).bind E.ρ=E.ρ b
  rw [h1];rfl
 refine ⟨⟨fun b x hx=>?_,fun b b' x x' g hx hx' hr hr'=>?_,hk.st⟩,⟨⟨hf.fr.os,hf.fr.tape,hf.fr.output,hf.fr.size,hf.fr.old,fun b x g hx hr=>?_,(QeO us hf.fr).S⟩,⟨fun g hg=>((hf.ext.trans (Q8 us)).S g hg),fun b hb=>?_,fun b x' hb hx=>?_⟩⟩,fun x v hx hv=>?_⟩
 ·obtain ⟨n,y,h1,h2,h3,rfl⟩:=Qfy hx
  obtain ⟨k1,k2,k3⟩:=hk.blk n y (kH _ _ h2 h3)
  obtain ⟨_,k2',_⟩:=hH.blk n y ((hl n).trans h3)
  have hr:(QhN E look us acc).ρ (idx acc n)=(QM E us).ρ n:=by
   show (acc[idx acc n]?).bind E.ρ=E.ρ n
   rw [Qdk hn h1,h1];rfl
  have:=Qm6.rn (E:=QM E us) (E':=QhN E look us acc) (f:=idx acc) (i:=n) rfl (.inl fun _ h=>h) (fun j hj=>rnat j (Qq7 c2 n (List.mem_of_getElem? h1) h2 y h3 j hj)) hr (Qzf hH hl k2')
  rw [Qdk hn h1] at this hr
  exact ⟨(List.getElem?_eq_some_iff.1 h1).1,this,fun g hg=>k3 g (hr ▸ hg)⟩
 ·obtain ⟨n,y,h1,h2,h3,rfl⟩:=Qfy hx
  obtain ⟨n',y',h1',h2',h3',rfl⟩:=Qfy hx'
  have e1:E.ρ n=some g:=by have:(acc[b]?).bind E.ρ=some g:=hr;rwa [h1] at this
  have e2:E.ρ n'=some g:=by have:(acc[b']?).bind E.ρ=some g:=hr';rwa [h1'] at this
  have:=hH.inj n n' y y' g ((hl n).trans h3) ((hl n').trans h3') e1 e2
  subst this
  rw [← Qdk hn h1,← Qdk hn h1']
 ·obtain ⟨n,y,h1,h2,h3,rfl⟩:=Qfy hx
  have e1:E.ρ n=some g:=by have:(acc[b]?).bind E.ρ=some g:=hr;rwa [h1] at this
  exact hf.fr.own n y g ((hl n).trans h3) e1
 ·have:=hpre b (hm b hb)
  exact (List.getElem?_eq_some_iff.1 this).1
 ·have h0:=hpre b (hm b hb)
  obtain ⟨n,y,h1,h2,h3,rfl⟩:=Qfy hx
  rw [h0] at h1
  injection h1 with h1
  subst h1
  obtain ⟨x,e1,e2,e3,e4⟩:=(hf.ext.trans (Q8 us)).H b y hb (kH _ _ h2 h3)
  refine ⟨x,e1,?_,by rw [Qco,Qkq,e3],e4⟩
  show (acc[b]?).bind E.ρ=E0.ρ b
  rw [h0]
  exact e2
 ·exact AVR.rn (E:=QM E us) (E':=QhN E look us acc) rfl (.inl fun _ h=>h) (fun i hi=>rnat i (Ql2 hx i hi)) (Qze hH hl hv)
def leV (look:Nat→Option Blk) (us acc:List Nat) (x y:AV):Prop:=match y with
 |.dead=>True
 |y=>inN acc (fzA look us x).names=true∧(fzA look us x).rn (idx acc)=y
def leT (look:Nat→Option Blk) (us acc:List Nat):List AV→List AV→Prop
 | [],[]=>True
 |x :: xs,y :: ys=>leV look us acc x y∧leT look us acc xs ys
 |_,_=>False
theorem QxF {look:Nat→Option Blk} {us acc:List Nat}:∀ {xs ys:List AV},leT look us acc xs ys→xs.length=ys.length∧∀ (i:Nat) y,ys[i]?=some y→∃ x,xs[i]?=some x∧leV look us acc x y
 | [],[],_=>⟨rfl,fun i y h=>by simp at h⟩
 |x :: xs,y :: ys,⟨h1,h2⟩=>by
   obtain ⟨h3,h4⟩:=QxF h2
   refine ⟨by simp [h3],fun i z hz=>?_⟩
   cases i with
   |zero=>simp at hz;subst hz;exact ⟨x,rfl,h1⟩
   |succ i=>exact h4 i z (by simpa using hz)
 | [],_ :: _,h=>h.elim
 |_ :: _,[],h=>h.elim
theorem Qzg {E E':Env} {look:Nat→Option Blk} {us acc:List Nat} {x y:AV} {v:Value} (h:leV look us acc x y) (hh:inN acc (fzA look us x).names=true→AVR E' ((fzA look us x).rn (idx acc)) v):AVR E' y v:=by
 cases y with
 |dead=>trivial
 |one _=>obtain ⟨h1,h2⟩:=h;rw [← h2];exact hh h1
 |tup _=>obtain ⟨h1,h2⟩:=h;rw [← h2];exact hh h1
theorem Le.mk {m:Nat} {st st':St} (us acc:List Nat) (c1:Qko m acc=true) (c2:Qu6 st.look us acc acc=true) (hh:wkH st.look us acc=st'.heap) (ht:leT st.look us acc st.tmps st'.tmps):Le m st st':=by
 intro E0 E a hm hs hf
 obtain ⟨h1,h2,h3⟩:=weak hm hs.ok hs.H hf c1 c2
 obtain ⟨h4,h5⟩:=QxF ht
 refine ⟨QhN E st.look us acc,rfl,⟨hs.defers,hs.len.trans h4,fun i y hy=>?_,h1,fun b=>?_,fun b hb=>?_⟩,h2⟩
 ·obtain ⟨x,hx,hxy⟩:=h5 i y hy
  obtain ⟨v,hv1,hv2⟩:=hs.tmp i x hx
  exact ⟨v,hv1,Qzg (E:=E) hxy fun hi=>h3 x v hi hv2⟩
 ·show (match (wkH st.look us acc)[b]? with |some x=>x |none=>none)=st'.look b
  rw [hh];rfl
 ·rw [← hh]
  have hb:b < acc.length:=hb
  simpa [wkH] using hb
def QgQ (T:Tab) (st:St):ResultVar→Option AV
 |.tmp t=>some (st.tmp t)
 |.cell a t=>match QuK T st.look t (st.tmp a) with
   |some r=>(match r.pre with |none=>some r.val |some _=>none)
   |none=>none
def Qra (T:Tab) (st:St):List ResultVar→Option AV
 | [r]=>QgQ T st r
 |l=>match QeB (QgQ T st) l with
   |some vs=>(match ones vs with |some xs=>some (.tup xs) |none=>none)
   |none=>none
def QBI (nm:Nat):List QD→Option (List QD)
 | []=>none
 |c :: cs=>match c with
   |.imm (.slice none 0 0)=>some (.own nm :: cs)
   |c=>match QBI nm cs with |some r=>some (c :: r) |none=>none
def noV (nm:Nat):V1→Option V1
 |.c c=>match c with |.imm (.slice none 0 0)=>some (.c (.own nm)) |_=>none
 |.agg cs=>match QBI nm cs with |some r=>some (.agg r) |none=>none
def QEc (nm:Nat):List V1→Option (List V1)
 | []=>none
 |v :: vs=>match noV nm v with
   |some w=>some (w :: vs)
   |none=>match QEc nm vs with |some r=>some (v :: r) |none=>none
def noA (nm:Nat):AV→Option AV
 |.dead=>none
 |.one v=>match noV nm v with |some w=>some (.one w) |none=>none
 |.tup l=>match QEc nm l with |some w=>some (.tup w) |none=>none
section
variable {E:Env} {nm:Nat} {t:Ty}
theorem Qzh {v:Value} (h:QaC E (.imm (.slice none 0 0)) [v]):QaC (QbK E [] nm t) (.own nm) [v]:=by
 obtain ⟨e,_⟩:=h
 injection e with e
 subst e
 exact QeR E [] nm t
theorem QiT (hx:Ext E (QbK E [] nm t)):∀ {cs ds:List QD} {vs:List Value},QBI nm cs=some ds→IR E cs vs→IR (QbK E [] nm t) ds vs
 | [],_,_,h,_=>by cases h
 |c :: cs,ds,vs,h,⟨r,s,e,h1,h2⟩=>by
   unfold QBI at h
   split at h
   ·injection h with h
    subst h
    obtain ⟨e2,_⟩:=h1
    subst e2
    exact ⟨_,s,e,QeR E [] nm t,h2.ext hx⟩
   ·split at h
    ·rename_i r' hr'
     injection h with h
     subst h
     exact ⟨r,s,e,h1.ext hx,QiT hx hr' h2⟩
    ·cases h
theorem Qrb (hx:Ext E (QbK E [] nm t)) {x y:V1} {v:Value} (h:noV nm x=some y) (hv:V1R E x v):V1R (QbK E [] nm t) y v:=by
 unfold noV at h
 split at h
 ·split at h
  ·injection h with h
   subst h
   exact Qzh hv
  ·cases h
 ·split at h
  ·rename_i r hr
   injection h with h
   subst h
   obtain ⟨vals,e,hi⟩:=hv
   exact ⟨vals,e,QiT hx hr hi⟩
  ·cases h
theorem Qnt (hx:Ext E (QbK E [] nm t)):∀ {xs ys:List V1} {vs:List Value},QEc nm xs=some ys→VsR E xs vs→VsR (QbK E [] nm t) ys vs
 | [],_,_,h,_=>by cases h
 |x :: xs,ys,vs,h,⟨v,r,e,h1,h2⟩=>by
   unfold QEc at h
   split at h
   ·rename_i w hw
    injection h with h
    subst h
    exact ⟨v,r,e,Qrb hx hw h1,h2.ext hx⟩
   ·split at h
    ·rename_i r' hr'
     injection h with h
     subst h
     exact ⟨v,r,e,h1.ext hx,Qnt hx hr' h2⟩
    ·cases h
theorem Qzi (hx:Ext E (QbK E [] nm t)) {x y:AV} {v:Value} (h:noA nm x=some y) (hv:AVR E x v):AVR (QbK E [] nm t) y v:=by
 unfold noA at h
 split at h
 ·cases h
 ·split at h
  ·rename_i w hw
   injection h with h
   subst h
   exact Qrb hx hw hv
  ·cases h
 ·split at h
  ·rename_i w hw
   injection h with h
   subst h
   obtain ⟨vs,e,hi⟩:=hv
   exact ⟨vs,e,Qnt hx hw hi⟩
  ·cases h
theorem Qj1.nil {E0:Env} {m:Nat} {r r':AV} {upd:List (Option Blk)} {fresh:List Blk} {v:Value} (h:Qj1 E0 m r' upd fresh v E) (t:Ty) (hr:noA (m+fresh.length) r'=some r) :
 Qj1 E0 m r upd (fresh++[.arr t []]) v (QbK E [] (m+fresh.length) t):=by
 have hU:¬ E.U (m+fresh.length):=fun hu=>by have:=(h.U _).1 hu;omega
 have st:QaI E { pre:=none,val:=.dead,add:=[.arr t []],set:=[] } (m+fresh.length) (QbK E [] (m+fresh.length) t):=QaI.nil (us:=[]) h.ok rfl rfl hU
 refine ⟨Qzi st.ext hr h.val,st.ok,fun b=>?_,fun b=>?_,h.ext.trans st.ext,st.fr _ h.fr⟩
 ·show (if b=m+fresh.length then some (Blk.arr t []) else if b ∈ ([]:List Nat) then none else E.H b)=_
  rw [if_neg (List.not_mem_nil),h.H b]
  by_cases h1:b=m+fresh.length
  ·subst h1
   rw [if_pos rfl,if_neg (by omega),List.getElem?_append_right (by omega)]
   simp
  ·rw [if_neg h1]
   by_cases h2:b < m
   ·rw [if_pos h2,if_pos h2]
   ·rw [if_neg h2,if_neg h2]
    by_cases h3:b-m < fresh.length
    ·rw [List.getElem?_append_left h3]
    ·rw [List.getElem?_append_right (by omega),List.getElem?_eq_none (by omega),List.getElem?_eq_none (by simp;omega)]
 ·show E.U b∨b=m+fresh.length ↔ _
  rw [h.U b,List.length_append,List.length_singleton]
  omega
end
inductive QxA (P:Program) (T:Tab) (m:Nat) (fn:Func):AV→List (Option Blk)→List Blk→St→Prop where
 |mk {r:AV} {upd:List (Option Blk)} {fresh:List Blk} {st:St} (us acc:List Nat) (v:AV) (hr:Qra T st fn.results.toList=some v) (c1:Qko m acc=true) (c2:Qu6 st.look us acc acc=true)
    (c3:inN acc (fzA st.look us v).names=true) (hu:Nat.beq upd.length m=true) (hh:wkH st.look us acc=upd++fresh.map some) (he:(fzA st.look us v).rn (idx acc)=r):QxA P T m fn r upd fresh st
 |le {r:AV} {upd:List (Option Blk)} {fresh:List Blk} {st st':St} (h:Le m st st') (h2:QxA P T m fn r upd fresh st'):QxA P T m fn r upd fresh st
 |nil {r:AV} {upd:List (Option Blk)} {fresh:List Blk} {st:St} (t:Ty) (r':AV) (fresh':List Blk) (h:QxA P T m fn r' upd fresh' st) (hr:noA (m+fresh'.length) r'=some r) (hf:fresh'++[.arr t []]=fresh):QxA P T m fn r upd fresh st
def QED (P:Program) (T:Tab) (m:Nat) (fn:Func) (r:AV) (upd:List (Option Blk)) (fresh:List Blk):Cont:=fun e st=>match e with
 |.normal=>QxA P T m fn r upd fresh st
 |.ret=>QxA P T m fn r upd fresh st
 |_=>False
section
variable {P:Program} {T:Tab}
def QgR (tmps:Array Value):ResultVar→Sem Value
 |.tmp t=>pure (tmps.getD t undef)
 |.cell p t=>do loadVar t (← asAddr (tmps.getD p undef))
theorem Qpn (fn:Func) (tmps:Array Value):results fn tmps=(do let vs ← fn.results.mapM (QgR tmps);pure (if h:vs.size=1 then vs[0] else .tuple vs)):=by
 unfold results
 congr 1
theorem QiU {α:Type} (P:Program) (w:World) (f:α→Sem Value):∀ (l:List α) (vs:List Value),(∀ (i:Nat) x,l[i]?=some x→∃ v,vs[i]?=some v∧(f x).run P w=.ok v w)→l.length=vs.length→(l.mapM f).run P w=.ok vs w
 | [],[],_,_=>by simp
 |x :: l,v :: vs,h,hl=>by
   obtain ⟨v',h1,h2⟩:=h 0 x rfl
   simp at h1
   subst h1
   have:=QiU P w f l vs (fun i y hy=>h (i+1) y (by simpa using hy)) (by simpa using hl)
   simp [List.mapM_cons,h2,this]
 | [],_ :: _,_,hl=>by simp at hl
 |_ :: _,[],_,hl=>by simp at hl
theorem Qib (hT:Qae P T) {st:St} {E:Env} {a:Act} (hs:Sim st E a) {r:ResultVar} {x:AV} (h:QgQ T st r=some x) :
 ∃ v,(QgR a.tmps r).run P E.w=.ok v E.w∧AVR E x v:=by
 cases r with
 |tmp t =>
   simp only [QgQ,Option.some.injEq] at h
   subst h
   exact ⟨_,by simp [QgR],hs.at_ t⟩
 |cell p t =>
   simp only [QgQ] at h
   split at h
   ·rename_i r hr
    split at h
    ·rename_i hp
     injection h with h
     subst h
     obtain ⟨v,h1,h2,_,_⟩:=Qm8 hT hs.ok (fun b x hb=>(hs.H b).trans hb) (hs.at_ p) hr (fun q hq=>by rw [hp] at hq;cases hq)
     refine ⟨v,?_,h2⟩
     unfold QgR
     simp only
     generalize a.tmps.getD p undef=va at h1 ⊢
     have hva:(∃ ad,va=.pointer (some ad))∨¬ ∃ ad,va=.pointer (some ad):=Classical.em _
     rcases hva with ⟨ad,rfl⟩ |hn
     ·simpa [Instr.loadAt,Instr.sureAddr,asAddr] using h1
     ·exfalso
      have:(Instr.sureAddr va)=stuck "an address expected (no nilCheck in front?)":=by
       unfold Instr.sureAddr
       split
       ·exact absurd ⟨_,rfl⟩ hn
       ·rfl
      simp [Instr.loadAt,this,stuck] at h1
    ·cases h
   ·cases h
theorem VsR.mk {E:Env}:∀ {xs:List V1} {vs:List Value},xs.length=vs.length→(∀ (i:Nat) x v,xs[i]?=some x→vs[i]?=some v→V1R E x v)→VsR E xs vs
 | [],[],_,_=>rfl
 |x :: xs,v :: vs,hl,h=>⟨v,vs,rfl,h 0 x v rfl rfl,VsR.mk (by simpa using hl) fun i y u hy hu=>h (i+1) y u (by simpa using hy) (by simpa using hu)⟩
 | [],_ :: _,hl,_=>by simp at hl
 |_ :: _,[],hl,_=>by simp at hl
theorem Qrc:∀ {l:List AV} {xs:List V1},ones l=some xs→l.length=xs.length∧∀ (i:Nat) x,xs[i]?=some x→l[i]?=some (.one x)
 | [],xs,h=>by simp [ones] at h;subst h;exact ⟨rfl,fun i x hx=>by simp at hx⟩
 |a :: l,xs,h=>by
   unfold ones at h
   split at h
   ·rename_i h1 h2;cases h2
   ·rename_i x r hx
    split at h
    ·rename_i ys hys
     injection h with h
     subst h
     injection hx with e1 e2
     subst e1;subst e2
     obtain ⟨h3,h4⟩:=Qrc hys
     refine ⟨by simp [h3],fun i z hz=>?_⟩
     cases i with
     |zero=>simp at hz;subst hz;rfl
     |succ i=>simpa using h4 i z (by simpa using hz)
    ·cases h
   ·cases h
theorem Qpo (hT:Qae P T) {st:St} {E:Env} {a:Act} (hs:Sim st E a) {fn:Func} {x:AV} (h:Qra T st fn.results.toList=some x):∃ v,(results fn a.tmps).run P E.w=.ok v E.w∧AVR E x v:=by
 have gen:∀ (l:List ResultVar) (vs:List AV),QeB (QgQ T st) l=some vs→∃ us:List Value,us.length=l.length∧(∀ (i:Nat) y u,vs[i]?=some y→us[i]?=some u→AVR E y u) ∧
  (l.mapM (QgR a.tmps)).run P E.w=.ok us E.w:=by
  intro l vs hm
  obtain ⟨h1,h2⟩:=Qdw hm
  have:∀ (l:List ResultVar) (vs:List AV),vs.length=l.length→(∀ (i:Nat) r,l[i]?=some r→∃ y,QgQ T st r=some y∧vs[i]?=some y)→∃ us:List Value,us.length=l.length∧(∀ (i:Nat) y u,vs[i]?=some y→us[i]?=some u→AVR E y u) ∧
   ∀ (i:Nat) r,l[i]?=some r→∃ u,us[i]?=some u∧(QgR a.tmps r).run P E.w=.ok u E.w:=by
   intro l
   induction l with
   |nil=>intro vs _ _;exact ⟨[],rfl,fun i y u _ hu=>by simp at hu,fun i r hr=>by simp at hr⟩
   |cons r l ih =>
     intro vs hl h
     cases vs with
     |nil=>simp at hl
     |cons y vs =>
       obtain ⟨us,e1,e2,e3⟩:=ih vs (by simpa using hl) (fun i r hr=>by simpa using h (i+1) r (by simpa using hr))
       obtain ⟨y',hy,hy'⟩:=h 0 r rfl
       simp at hy'
       subst hy'
       obtain ⟨v,hv1,hv2⟩:=Qib hT hs hy
       refine ⟨v :: us,by simp [e1],fun i z u hz hu=>?_,fun i r' hr'=>?_⟩
       ·cases i with
        |zero=>simp at hz hu;subst hz;subst hu;exact hv2
        |succ i=>exact e2 i z u (by simpa using hz) (by simpa using hu)
       ·cases i with
        |zero=>simp at hr';subst hr';exact ⟨v,rfl,hv1⟩
        |succ i=>simpa using e3 i r' (by simpa using hr')
  obtain ⟨us,e1,e2,e3⟩:=this l vs h1 h2
  exact ⟨us,e1,e2,QiU P E.w _ l us e3 e1.symm⟩
 have run:∀ us:List Value,(fn.results.toList.mapM (QgR a.tmps)).run P E.w=.ok us E.w →
  (results fn a.tmps).run P E.w=.ok (if h:us.toArray.size=1 then us.toArray[0] else .tuple us.toArray) E.w:=by
  intro us hu
  rw [Qpn,Array.mapM_eq_mapM_toList]
  simp [-Array.getD_eq_getD_getElem?,hu]
 unfold Qra at h
 split at h
 ·rename_i r hl
  obtain ⟨v,h1,h2⟩:=Qib hT hs h
  refine ⟨v,?_,h2⟩
  have:=run [v] (by rw [hl];exact QiU P E.w _ [r] [v] (fun i x hx=>by
   cases i with
   |zero=>simp at hx;subst hx;exact ⟨v,rfl,h1⟩
   |succ i=>simp at hx) rfl)
  simpa using this
 ·rename_i hl
  split at h
  ·rename_i vs hm
   split at h
   ·rename_i xs ho
    injection h with h
    subst h
    obtain ⟨us,e1,e2,e3⟩:=gen _ _ hm
    obtain ⟨o1,o2⟩:=Qrc ho
    have hlen:us.length≠1:=by
     intro hu
     rw [e1] at hu
     match hr:fn.results.toList,hu with
     | [r],_=>exact hl r hr
    refine ⟨_,run us e3,?_⟩
    rw [dif_neg (by simpa using hlen)]
    refine ⟨us.toArray,rfl,VsR.mk ?_ fun i x v hx hv=>?_⟩
    ·have:=(Qdw hm).1
     simp only [List.size_toArray]
     show xs.length=us.length
     omega
    ·exact e2 i _ v (o2 i x hx) (by simpa using hv)
   ·cases h
  ·cases h
theorem Qj1.of_ends {m:Nat} {E0 E:Env} {a:Act} {st:St} {fn:Func} {r:AV} {upd:List (Option Blk)} {fresh:List Blk} (hT:Qae P T) (hm:∀ b,E0.U b→b < m) (hs:Sim st E a) (hf:Fr E0 E)
 (h:QxA P T m fn r upd fresh st):∃ v,(results fn a.tmps).run P E.w=.ok v E.w∧∃ E',E'.w=E.w∧Qj1 E0 m r upd fresh v E':=by
 induction h generalizing E with
 |nil t r' fresh' _ hr he ih =>
   obtain ⟨v,k1,E2,k2,k3⟩:=ih hs hf
   subst he
   exact ⟨v,k1,QbK E2 [] _ t,k2,Qj1.nil k3 t hr⟩
 |le hle _ ih =>
   obtain ⟨E1,e1,s1,f1⟩:=hle E0 E a hm hs hf
   obtain ⟨v,k1,E2,k2,k3⟩:=ih s1 f1
   rw [e1] at k1 k2
   exact ⟨v,k1,E2,k2,k3⟩
 | @mk r upd fresh st us acc x hr c1 c2 c3 hu hh he =>
   obtain ⟨v,h1,h2⟩:=Qpo hT hs hr
   obtain ⟨k1,k2,k3⟩:=weak hm hs.ok hs.H hf c1 c2
   have hu:=Nat.eq_of_beq_eq_true hu
   have hlen:acc.length=m+fresh.length:=by
    have:=congrArg List.length hh
    simp [wkH] at this
    omega
   refine ⟨v,h1,QhN E _ us acc,rfl,he ▸ k3 x v c3 h2,k1,fun b=>?_,fun b=>?_,k2.ext,k2.fr⟩
   ·show (match (wkH _ us acc)[b]? with |some x=>x |none=>none)=_
    rw [hh]
    split<;>rename_i hb
    ·split
     ·rename_i hlt
      rw [List.getElem?_append_left (by omega)] at hb
      rw [hb];rfl
     ·rename_i hlt
      rw [List.getElem?_append_right (by omega),hu,List.getElem?_map] at hb
      cases hf:fresh[b-m]? with
      |none=>rw [hf] at hb;cases hb
      |some y=>rw [hf] at hb;simp at hb;exact hb.symm
    ·have:=List.getElem?_eq_none_iff.1 hb
     simp at this
     rw [if_neg (by omega),List.getElem?_eq_none (by omega)]
   ·show b < acc.length ↔ _
    rw [hlen]
def st0 (n:Nat) (args:List V1) (bl:List Blk):St:={ tmps:=args.map .one++List.replicate (n-args.length) .dead,heap:=bl.map some }
theorem VsR.at_ {E:Env}:∀ {xs:List V1} {vs:List Value},VsR E xs vs→∀ (i:Nat) x,xs[i]?=some x→∃ v,vs[i]?=some v∧V1R E x v
 | [],_,_,i,x,h=>by simp at h
 |y :: xs,_,⟨v,r,e,h1,h2⟩,i,x,h=>by
   subst e
   cases i with
   |zero=>simp at h;subst h;exact ⟨v,rfl,h1⟩
   |succ i=>simpa using h2.at_ i x (by simpa using h)
theorem Sim.start {E:Env} {args:List V1} {bl:List Blk} {vs:Array Value} (n:Nat) (hH:∀ b,E.H b=bl[b]?) (hU:∀ b,E.U b ↔ b < bl.length) (ok:Qt E) (hv:VsR E args vs.toList) :
 Sim (st0 n args bl) E { tmps:=vs++Array.replicate (n-vs.size) undef,defers:=[] }:=by
 have hl:vs.size=args.length:=by have:=VsR.len hv;simpa using this
 refine ⟨rfl,by simp [st0,hl],fun i x hx=>?_,ok,fun b=>?_,fun b hb=>by simpa [st0] using (hU b).1 hb⟩
 ·simp only [st0,List.getElem?_append] at hx
  split at hx
  ·rename_i hi
   rw [List.getElem?_map] at hx
   cases h:args[i]? with
   |none=>rw [h] at hx;cases hx
   |some y =>
     rw [h] at hx
     simp at hx
     subst hx
     obtain ⟨v,h1,h2⟩:=hv.at_ i y h
     have hi:i < vs.size:=by simp at hi;omega
     exact ⟨v,by simpa [Array.getElem?_append,hi] using h1,h2⟩
  ·rename_i hi
   simp at hi
   rw [List.getElem?_replicate] at hx
   split at hx
   ·rename_i hlt
    injection hx with hx
    subst hx
    refine ⟨undef,?_,trivial⟩
    rw [Array.getElem?_append,if_neg (by omega),Array.getElem?_replicate,if_pos (by simp at hlt;omega)]
   ·cases hx
 ·rw [hH]
  show _=(match (bl.map some)[b]? with |some o=>o |none=>none)
  rw [List.getElem?_map]
  cases bl[b]?<;>rfl
theorem QiV {f:FuncId} {fn:Func} {c:Code} (hT:Qae P T) (hf:P.funcs[f]?=some fn) (hb:fn.body=some c) (s:Qcm)
 (h:∀ args bl p r upd fresh,s.run args bl=some (p,r,upd,fresh)→(∀ q,p=some q→q) →
   ∃ args',(∀ E vs,Qt E→(∀ b,E.H b=bl[b]?)→VsR E args vs→VsR E args' vs)∧Does P bl.length c (st0 fn.ntmps args' bl) (QED P T bl.length fn r upd fresh)):CSound P f s:=by
 intro E0 vs args bl p r upd fresh hH hU hok hvs hrun hp
 obtain ⟨args',h1,h2⟩:=h args bl p r upd fresh hrun hp
 have hm:∀ b,E0.U b→b < bl.length:=fun b hb=>(hU b).1 hb
 refine calls_of_wp hf hb (h2 E0 _ E0 _ hm (Sim.start fn.ntmps hH hU hok (h1 E0 _ hok hH hvs)) ⟨Qh7,Ext.refl E0⟩ ?_)
 intro e st' E' a' hk hs' hf'
 have fin:QxA P T bl.length fn r upd fresh st'→a'.defers=[]∧∃ v,(results fn a'.tmps).run P E'.w=.ok v E'.w∧∃ v' E'',Ending.returned v=.returned v'∧E''.w=E'.w∧Qj1 E0 bl.length r upd fresh v' E'':=by
  intro he
  obtain ⟨v,k1,E'',k2,k3⟩:=Qj1.of_ends hT hm hs' hf' he
  exact ⟨hs'.defers,v,k1,v,E'',rfl,k2,k3⟩
 cases e with
 |normal=>exact fin hk
 |ret=>exact fin hk
 |_=>exact hk.elim
structure Sig where
 ag:Bool
 t:Ty
@[reducible] def Args:List Sig→Type
  | []=>Unit
  |g :: gs=>Den g.t × Args gs
def QxG (g:Sig) (x:V1):Option (Den g.t):=match g.ag,x with
 |false,.c c=>match QbJ (fun _=>none) g.t [c] with
   |some (d,_)=>(match cells g.t d with | [_]=>some d |_=>none)
   |none=>none
 |true,.agg cs=>match QbJ (fun _=>none) g.t cs with
   |some (d,_)=>some d
   |none=>none
 |_,_=>none
def Qcp (g:Sig) (d:Den g.t):V1:=match g.ag with
 |true=>.agg (cells g.t d)
 |false=>match cells g.t d with
   | [c]=>.c c
   |cs=>.agg cs
def Qc6:(gs:List Sig)→List V1→Option (Args gs)
 | [],[]=>some ()
 |g :: gs,x :: xs=>match QxG g x with
   |some d=>(match Qc6 gs xs with |some r=>some (d,r) |none=>none)
   |none=>none
 |_,_=>none
def QaK:(gs:List Sig)→Args gs→List V1
 | [],_=>[]
 |g :: gs,(a,r)=>Qcp g a :: QaK gs r
def Qc7:(gs:List Sig)→(Args gs→Prop)→Prop
 | [],p=>p ()
 |g :: gs,p=>∀ a:Den g.t,Qc7 gs fun r=>p (a,r)
theorem Qc7.out:∀ {gs:List Sig} {p:Args gs→Prop},Qc7 gs p→∀ x,p x
 | [],_,h,()=>h
 |_ :: _,_,h,(a,r)=>Qc7.out (h a) r
theorem Qnu {E:Env} (hH:Qt E) (hn:∀ b,E.H b=none) {g:Sig} {x:V1} {d:Den g.t} {v:Value} (h:QxG g x=some d) (hv:V1R E x v):V1R E (Qcp g d) v:=by
 have su:∀ {us:List Nat} {t:Ty} {x:Den t} {vs:List Value},CR E.w (SU E us) t x vs→CR E.w E.S t x vs:=by
  intro us t x vs hc
  refine hc.mono fun g hg=>⟨?_,rfl⟩
  rcases hg with hg |⟨u,x,_,hx,_⟩
  ·exact hg
  ·rw [hn] at hx;cases hx
 have dec:∀ {cs:List QD} {vs:List Value} {t:Ty} {d:Den t} {us:List Nat},QbJ (fun _=>none) t cs=some (d,us)→IR E cs vs→IR E (cells t d) vs :=
  fun h hr=>(su (Qbp hH (fun b x hx=>by cases hx) h hr)).items
 unfold QxG at h
 unfold Qcp
 split at h
 ·rename_i c hg
  rw [hg]
  split at h
  ·rename_i d' us hd
   split at h
   ·rename_i c' hc
    injection h with h
    subst h
    have:=dec hd (show IR E [c] [v] from ⟨[v],[],rfl,hv,rfl⟩)
    simp only [hc]
    rw [hc] at this
    obtain ⟨r,s,e,h1,h2⟩:=this
    simp only [IR] at h2
    subst h2
    simp at e
    subst e
    exact h1
   ·cases h
  ·cases h
 ·rename_i cs hg
  rw [hg]
  split at h
  ·rename_i d' us hd
   injection h with h
   subst h
   obtain ⟨vals,e,hi⟩:=hv
   exact ⟨vals,e,dec hd hi⟩
  ·cases h
 ·cases h
theorem Qer {E:Env} (hH:Qt E) (hn:∀ b,E.H b=none):∀ {gs:List Sig} {xs:List V1} {ds:Args gs} {vs:List Value},Qc6 gs xs=some ds→VsR E xs vs→VsR E (QaK gs ds) vs
 | [],[],_,_,_,hv=>hv
 |g :: gs,x :: xs,ds,_,h,⟨v,r,e,h1,h2⟩=>by
   unfold Qc6 at h
   split at h
   ·rename_i d hd
    split at h
    ·rename_i rs hr
     injection h with h
     subst h
     exact ⟨v,r,e,Qnu hH hn hd h1,Qer hH hn hr h2⟩
    ·cases h
   ·cases h
 | [],_ :: _,_,_,h,_=>by simp [Qc6] at h
 |_ :: _,[],_,_,h,_=>by simp [Qc6] at h
structure Qk where
 gs:List Sig
 out:Args gs→Option Prop × AV × List Blk
def Qk.spec (s:Qk):Qcm:={ wr:=false,run:=fun args bl=>match bl with
 | []=>match Qc6 s.gs args with
   |some xs=>some ((s.out xs).1,(s.out xs).2.1,[],(s.out xs).2.2)
   |none=>none
 |_ :: _=>none }
def Qic (P:Program) (T:Tab) (fn:Func) (args:List V1) (bl:List Blk) (r:AV) (upd:List (Option Blk)) (fresh:List Blk):Prop:=match fn.body with
 |some c=>QBt args fun args=>Qo9 bl fun bl=>fSt (st0 fn.ntmps args bl) fun st=>ex P T bl.length c st (QED P T bl.length fn r upd fresh)
 |none=>False
theorem Qk.sound {f:FuncId} {fn:Func} (hT:Qae P T) (hP:Qe P T) (hf:P.funcs[f]?=some fn) (hn:(fn.name == "runtime.NumGoroutine")=false) (s:Qk)
 (h:Qc7 s.gs fun xs=>(∀ q,(s.out xs).1=some q→q)→Qic P T fn (QaK s.gs xs) [] (s.out xs).2.1 [] (s.out xs).2.2) (hb:fn.body.isSome=true):CSound P f s.spec∧Enters P f:=by
 refine ⟨?_,fn,hf,hn,hb⟩
 obtain ⟨c,hc⟩:=Option.isSome_iff_exists.1 hb
 refine QiV hT hf hc _ fun args bl p r upd fresh hrun hp=>?_
 unfold Qk.spec at hrun
 simp only at hrun
 split at hrun
 ·split at hrun
  ·rename_i xs hxs
   simp only [Option.some.injEq,Prod.mk.injEq] at hrun
   obtain ⟨rfl,rfl,rfl,rfl⟩:=hrun
   refine ⟨_,fun E vs hok hH hv=>Qer hok (fun b=>by rw [hH];simp) hxs hv,?_⟩
   have:=h.out xs hp
   unfold Qic at this
   rw [hc] at this
   simp only [QgD,QeL,QaW] at this
   exact Qgj hT hP c this
  ·cases hrun
 ·cases hrun
end
def orB:List Bool→List Bool→List Bool
 | [],l=>l
 |a :: x,[]=>a :: x
 |a :: x,b :: y=>(match a with |true=>true |false=>b) :: orB x y
def Qzj:Nat→List Bool
 |0=>[true]
 |j+1=>false :: Qzj j
def Qdq:List Bool→Nat→Bool
 | [],_=>false
 |b :: _,0=>b
 |_ :: r,n+1=>Qdq r n
def QbY:List (List Bool)→Nat→List Bool
 | [],_=>[]
 |b :: _,0=>b
 |_ :: r,n+1=>QbY r n
def QiW (As:List (List Bool)):List Edge→List Bool
 | []=>[]
 |e :: r=>match Region.binds .any e with
   |true=>orB (orB (Qzj e.on) (QbY As e.on)) (QiW As r)
   |false=>QiW As r
def Qid:List Bool→(List Bool→Prop)→Prop
 | [],k=>k []
 |true :: cs,k=>Qid cs fun cs=>k (true :: cs)
 |false :: cs,k=>Qid cs fun cs=>k (false :: cs)
def Qc8:List Oper→List (List Bool)→(List (List Bool)→Prop)→Prop
 | [],As,K=>K As
 |o :: r,As,K=>Qid (QiW As o.after.toList) fun A=>fL (As++[A]) fun As=>Qc8 r As K
inductive W1 where
 |no |any |only (l:List Nat)
def QuG:W1→Nat→Bool
 |.no,_=>false
 |.any,_=>true
 |.only l,b=>memN b l
def QqC:List W1→Nat→W1
 | [],_=>.no
 |b :: _,0=>b
 |_ :: r,n+1=>QqC r n
def fW:W1→(W1→Prop)→Prop
 |.no,k=>k .no
 |.any,k=>k .any
 |.only l,k=>QqP l fun l=>k (.only l)
def fWs:List W1→(List W1→Prop)→Prop
 | [],k=>k []
 |c :: cs,k=>fW c fun c=>fWs cs fun cs=>k (c :: cs)
def Qu8 (t:Tmp):List Oper→Option (Op × List Oper)
 | []=>none
 |o :: os=>match o.dst with
   |some d=>(match Nat.beq d t with |true=>some (o.op,os) |false=>Qu8 t os)
   |none=>Qu8 t os
def Ql3:Nat→Nat→List Nat
 |_,0=>[]
 |a,n+1=>a :: Ql3 (a+1) n
def Qeg (st:St):Nat→List Oper→Operand→W1
 |0,_,_=>.any
 |f+1,ops,x=>match x with
   |.tmp t=>match Qu8 t ops with
     |some (.fieldAddr _ y _,os)=>Qeg st f os y
     |some (.indexAddr _ y _,os)=>Qeg st f os y
     |some (.move y,os)=>Qeg st f os y
     |some (.nilCheck y,os)=>Qeg st f os y
     |some (.assign y,os)=>Qeg st f os y
     |some (.binOp ..,_)=>.only []
     |some (.buildSlice ..,_)=>.only (Ql3 st.heap.length 24)
     |some (.call c,_)=>(match c.callee with |.builtin b=>(match b with |.len=>.only [] |.max=>.only [] |.min=>.only [] |_=>.any) |_=>.any)
     |some _=>.any
     |none=>match st.tmp t with
       |.one (.c (.ptr b _))=>.only [b]
       |.one (.c (.pel b _ _))=>.only [b]
       |.one (.c (.pidx b _ _))=>.only [b]
       |.one (.c (.own b))=>.only [b]
       |.one (.c (.sub b _ _))=>.only [b]
       |.one (.c (.svar b _ _))=>.only [b]
       |.one (.c (.map b))=>.only [b]
       |.one (.c (.imm _))=>.only []
       |.one (.c (.ro _ _))=>.only []
       |_=>.any
   |_=>.only []
def Qzk (st:St) (ops:List Oper):List Operand→Option (List Nat)
 | []=>some []
 |a :: r=>match Qeg st 6 ops a with
   |.only l=>(match Qzk st ops r with |some m=>some (l++m) |none=>none)
   |_=>none
def QBJ (st:St) (ops:List Oper) (args:List Operand):W1:=match Qzk st ops args with
 |some l=>(match reach st.look 100 l [] with |some acc=>.only acc |none=>.any)
 |none=>.any
def QG7 (st:St) (ops:List Oper) (args:List Operand):W1:=match QBJ st ops (args.take 1) with
 |.any=>(match args with |a :: _=>Qeg st 6 ops a | []=>.any)
 |w=>w
def QiX (st:St):Nat→List Oper→Operand→Option (FuncId × List Nat)
 |0,_,_=>none
 |f+1,ops,x=>match x with
   |.func g=>some (g,[])
   |.tmp t=>match Qu8 t ops with
     |some (.move y,os)=>QiX st f os y
     |some (.assign y,os)=>QiX st f os y
     |some _=>none
     |none=>match st.tmp t with
       |.one (.c (.fn g caps))=>some (g,caps)
       |_=>none
   |_=>none
def QEE (st:St) (ops:List Oper) (args:List Operand) (caps:List Nat):W1:=match Qzk st ops args with
 |some l=>(match reach st.look 100 (l++caps) [] with |some acc=>.only acc |none=>.any)
 |none=>.any
def QBK (T:Tab) (st:St) (t:TypeId):W1:=match QgB T t with
 |some (u,_)=>(match u.flat with |true=>.no |false=>.only (Ql3 st.heap.length 24))
 |none=>.no
def QG8 (T:Tab) (st:St) (ops:List Oper) (o:Oper):W1:=match o.op with
 |.store _ a _=>Qeg st 6 ops a
 |.mapUpdate _ m _ _=>Qeg st 6 ops m
 |.insert _ m _ _=>Qeg st 6 ops m
 |.buildSlice t _ _=>QBK T st t
 |.call c=>match c.callee with
   |.builtin b=>(match b with |.append=>QG7 st ops c.args.toList |.copy=>QBJ st ops (c.args.toList.take 1) |_=>.no)
   |.value f=>(match QiX st 6 ops f with |some (g,caps)=>(match T.fn g with |some s=>(match s.wr||s.eat with |true=>QEE st ops c.args.toList caps |false=>.no) |none=>.any) |none=>.any)
   |_=>.any
 |_=>.no
def effs (T:Tab) (st:St) (ops:List Oper):List Oper→List W1
 | []=>[]
 |o :: r=>QG8 T st ops o :: effs T st (o :: ops) r
def Qpp (i:Nat):List W1→List (List Bool)→List Bool→List Nat→List W1
 |e :: es,As,A,k :: ks=>match e with
   |.no=>Qpp i es (As.drop 1) (A.drop 1) ks
   |e=>match Nat.beq k i with
     |true=>Qpp i es (As.drop 1) (A.drop 1) ks
     |false=>match Qdq A 0 with
       |true=>Qpp i es (As.drop 1) (A.drop 1) ks
       |false=>match Qdq (QbY As 0) i with
         |true=>Qpp i es (As.drop 1) (A.drop 1) ks
         |false=>e :: Qpp i es (As.drop 1) (A.drop 1) ks
 | [],_,_,_=>[]
 |_ :: _,_,_,[]=>[.any]
def Qu9:List W1→Nat→Bool
 | [],_=>false
 |c :: r,b=>match QuG c b with |true=>true |false=>Qu9 r b
def Qnv (e:W1):List (Nat × Option Blk)→Bool
 | []=>true
 |(n,_) :: r=>match QuG e n with |true=>Qnv e r |false=>false
def QbF (i:Nat) (t:Tmp):List Oper→List (List Bool)→List Bool→List Nat→Bool
 |o :: os,As,A,k :: ks=>match o.dst with
   |some d=>match Nat.beq d t with
     |true=>match Qdq A 0 with
       |true=>QbF i t os (As.drop 1) (A.drop 1) ks
       |false=>match Qdq (QbY As 0) i with
         |true=>QbF i t os (As.drop 1) (A.drop 1) ks
         |false=>match Nat.beq k i with
           |true=>QbF i t os (As.drop 1) (A.drop 1) ks
           |false=>true
     |false=>QbF i t os (As.drop 1) (A.drop 1) ks
   |none=>QbF i t os (As.drop 1) (A.drop 1) ks
 | [],_,_,_=>false
 |_ :: _,_,_,[]=>true
def Qf7 (inc:List W1) (A:List Bool) (b:Nat):List (Nat × Nat × Nat)→Bool
 | []=>Qu9 inc b
 |(k,n,c) :: r=>match Nat.ble n b&&Nat.blt b (n+c) with
   |true=>(match Qdq A k with |true=>Qf7 inc A b r |false=>true)
   |false=>Qf7 inc A b r
def Qgk (lk:Nat→Option Blk):List (Nat × Option Blk)→Bool
 | []=>true
 |(n,_) :: r=>match lk n with |none=>false |some _=>Qgk lk r
def QeT (own:List (Nat × Nat × Nat)) (i nm:Nat):List Blk→List (Nat × Nat × Nat)
 | []=>own
 |b :: r=>(i,nm,r.length+1) :: own
def Ql4 (i:Nat) (o:Oper) (ops:List Oper) (As:List (List Bool)) (A:List Bool):Bool:=match o.dst with
 |none=>true
 |some d=>match QbF i d (ops.take i) As A lits with |true=>false |false=>true
def Qva:List Bool→Nat→Bool
 | [],_=>true
 |_ :: _,0=>false
 |_ :: r,n+1=>Qva r n
def QgS (st:St) (hide:Tmp→Bool) (x:Operand):AV:=match x with
 |.tmp t=>(match hide t with |true=>.dead |false=>st.tmp t)
 |.const v=>QmX v
 |.func f=>.cell (.fn f [])
 |.global _=>.dead
def Qcq (st:St) (hb:Nat→Bool) (b:Nat):Option Blk:=match hb b with |true=>none |false=>st.look b
def doM (T:Tab) (o:Oper) (ht:Tmp→Bool) (hb:Nat→Bool) (eff:W1) (nm:Nat) (st:St) (K:St→List Blk→Prop):Prop :=
 match dstep T (QgS st ht) (Qcq st hb) nm o with
 |some r=>need r.pre (QEb r fun v add set=>match Qgk (Qcq st hb) set&&Qnv eff set with
   |true=>fSt ((st.act nm { pre:=none,val:=v,add:=add,set:=set }).put o.dst v) fun st=>K st add
   |false=>False)
 |none=>False
def exM (T:Tab) (ops:Array Oper) (As:List (List Bool)) (efs:List W1):List Oper→List Nat→List (Nat × Nat × Nat)→St→(St→Prop)→Prop
 | [],_,_,st,K=>K st
 |_ :: _,[],_,_,_=>False
 |o :: r,i :: is,own,st,K =>
   match Qva (QbY As i) i&&Ql4 i o ops.toList As (QbY As i) with
   |false=>False
   |true=>fWs (Qpp i efs As (QbY As i) lits) fun inc =>
     match Qan ops o with
     |none=>False
     |some none=>Qam lits st.heap st.heap.length fun nm =>
       doM T o (fun t=>QbF i t ops.toList As (QbY As i) lits) (fun b=>Qf7 inc (QbY As i) b own) (QqC efs i) nm st fun st' add=>exM T ops As efs r is (QeT own i nm add) st' K
     |some (some (d,want))=>match QgS st (fun t=>QbF i t ops.toList As (QbY As i) lits) (.tmp d) with
       |.one (.c (.imm (.bool b)))=>Br b
         (fSt (st.put (some d) (.cell (bv true))) fun st=>match want with
           |true=>Qam lits st.heap st.heap.length fun nm =>
             doM T o (fun t=>QbF i t ops.toList As (QbY As i) lits) (fun b=>Qf7 inc (QbY As i) b own) (QqC efs i) nm st fun st' add=>exM T ops As efs r is (QeT own i nm add) st' K
           |false=>fSt (st.put o.dst (.tup [])) fun st=>exM T ops As efs r is own st K)
         (fSt (st.put (some d) (.cell (bv false))) fun st=>match want with
           |false=>Qam lits st.heap st.heap.length fun nm =>
             doM T o (fun t=>QbF i t ops.toList As (QbY As i) lits) (fun b=>Qf7 inc (QbY As i) b own) (QqC efs i) nm st fun st' add=>exM T ops As efs r is (QeT own i nm add) st' K
           |true=>fSt (st.put o.dst (.tup [])) fun st=>exM T ops As efs r is own st K)
       |.tup []=>fSt (st.put o.dst (.tup [])) fun st=>exM T ops As efs r is own st K
       |_=>False
def exD (T:Tab) (ops:Array Oper) (st:St) (K:St→Prop):Prop :=
 Qc8 ops.toList [] fun As=>fWs (effs T st [] ops.toList) fun efs=>exM T ops As efs ops.toList lits [] st K
theorem QgT:∀ (l:List Bool) (k:List Bool→Prop),Qid l k=k l
 | [],k=>rfl
 |true :: ns,k=>by unfold Qid;rw [QgT ns]
 |false :: ns,k=>by unfold Qid;rw [QgT ns]
theorem Ql5:∀ {a b:List Bool} {j:Nat},Qdq (orB a b) j=true→Qdq a j=true∨Qdq b j=true
 | [],_,_,h=>.inr h
 |_ :: _,[],_,h=>.inl h
 |a :: x,b :: y,0,h=>by cases a<;>simp_all [orB,Qdq]
 |a :: x,b :: y,j+1,h=>Ql5 (a:=x) (b:=y) (j:=j) h
theorem QgU:∀ {a b:List Bool} {j:Nat},Qdq a j=true→Qdq (orB a b) j=true
 | [],_,_,h=>by cases h
 |_ :: _,[],_,h=>h
 |a :: x,b :: y,0,h=>by cases a<;>simp_all [orB,Qdq]
 |a :: x,b :: y,j+1,h=>QgU (a:=x) (b:=y) (j:=j) h
theorem Qkr:∀ {a b:List Bool} {j:Nat},Qdq b j=true→Qdq (orB a b) j=true
 | [],_,_,h=>h
 |_ :: _,[],_,h=>by cases h
 |a :: x,b :: y,0,h=>by cases a<;>simp_all [orB,Qdq]
 |a :: x,b :: y,j+1,h=>Qkr (a:=x) (b:=y) (j:=j) h
theorem QiY:∀ {i j:Nat},Qdq (Qzj i) j=true ↔ j=i
 |0,0=>by simp [Qzj,Qdq]
 |0,j+1=>by simp [Qzj,Qdq]
 |i+1,0=>by simp [Qzj,Qdq]
 |i+1,j+1=>by simp [Qzj,Qdq,QiY]
theorem Qnw:∀ {l:List Bool} {i j:Nat},Qva l i=true→Qdq l j=true→j < i
 | [],_,_,_,h=>by cases h
 |_ :: _,0,_,h,_=>by cases h
 |_ :: r,n+1,0,_,_=>by omega
 |_ :: r,n+1,j+1,h,h'=>by have:=Qnw (l:=r) (i:=n) (j:=j) h h';omega
theorem QgV:∀ {a b:List (List Bool)} {k:Nat},QbY a k≠[]→QbY (a++b) k=QbY a k
 | [],_,_,h=>absurd rfl h
 |x :: a,b,0,_=>rfl
 |x :: a,b,k+1,h=>QgV (a:=a) (b:=b) (k:=k) h
theorem Ql6:∀ {a:List (List Bool)} {k:Nat} {x:List Bool},a[k]?=some x→QbY a k=x
 | [],_,_,h=>by simp at h
 |y :: a,0,_,h=>by simp at h;exact h
 |y :: a,k+1,_,h=>Ql6 (a:=a) (k:=k) (by simpa using h)
theorem QiZ {As:List (List Bool)} {j:Nat}:∀ {l:List Edge},Qdq (QiW As l) j=true→∃ e ∈ l,Region.binds .any e=true∧(j=e.on∨Qdq (QbY As e.on) j=true)
 | [],h=>by cases h
 |e :: r,h=>by
   unfold QiW at h
   split at h
   ·rename_i hb
    rcases Ql5 h with h |h
    ·rcases Ql5 h with h |h
     ·exact ⟨e,by simp,hb,.inl (QiY.1 h)⟩
     ·exact ⟨e,by simp,hb,.inr h⟩
    ·obtain ⟨e',h1,h2⟩:=QiZ h
     exact ⟨e',by simp [h1],h2⟩
   ·obtain ⟨e',h1,h2⟩:=QiZ h
    exact ⟨e',by simp [h1],h2⟩
theorem Qi0 {As:List (List Bool)}:∀ {l:List Edge} {e:Edge},e ∈ l→Region.binds .any e=true→Qdq (QiW As l) e.on=true
 |e' :: r,e,h,hb=>by
   unfold QiW
   rcases List.mem_cons.1 h with rfl |h
   ·rw [hb];exact QgU (QgU (QiY.2 rfl))
   ·split
    ·exact Qkr (Qi0 h hb)
    ·exact Qi0 h hb
structure QD6 (ops:List Oper) (As:List (List Bool)):Prop where
 out:∀ (i:Nat) o,ops[i]?=some o→∀ j,Qdq (QbY As i) j=true→∃ e ∈ o.after,Region.binds .any e=true∧(j=e.on∨Qdq (QbY As e.on) j=true)
 in_:∀ (i:Nat) o,ops[i]?=some o→∀ e ∈ o.after,Region.binds .any e=true→Qdq (QbY As i) e.on=true
theorem QfZ:∀ (l:List Oper) (As:List (List Bool)) {K:List (List Bool)→Prop},Qc8 l As K→∃ Bs,K (As++Bs)∧∀ (i:Nat) o,l[i]?=some o→Bs[i]?=some (QiW (As++Bs.take i) o.after.toList)
 | [],As,K,h=>⟨[],by simpa [Qc8] using h,fun i o ho=>by simp at ho⟩
 |o :: r,As,K,h=>by
   unfold Qc8 at h
   rw [QgT,QuN] at h
   obtain ⟨Bs,h1,h2⟩:=QfZ r _ h
   refine ⟨QiW As o.after.toList :: Bs,by simpa using h1,fun i o' ho=>?_⟩
   cases i with
   |zero=>simp at ho;subst ho;simp
   |succ i=>have:=h2 i o' (by simpa using ho);simpa using this
theorem QEF {ops:List Oper} {K:List (List Bool)→Prop} (h:Qc8 ops [] K):∃ As,K As∧QD6 ops As:=by
 obtain ⟨Bs,h1,h2⟩:=QfZ ops [] h
 simp only [List.nil_append] at h1 h2
 refine ⟨Bs,h1,fun i o ho j hj=>?_,fun i o ho e he hb=>?_⟩
 ·rw [Ql6 (h2 i o ho)] at hj
  obtain ⟨e,he,hb,hh⟩:=QiZ hj
  refine ⟨e,by simpa using he,hb,hh.imp id fun hh=>?_⟩
  have hne:QbY (Bs.take i) e.on≠[]:=fun e=>by rw [e] at hh;cases hh
  have:=QgV (b:=Bs.drop i) hne
  rw [List.take_append_drop] at this
  rw [this];exact hh
 ·rw [Ql6 (h2 i o ho)]
  exact Qi0 (by simpa using he) hb
theorem Qks:∀ (A:List Bool) (j:Nat),Qdq (A.drop 1) j=Qdq A (j+1)
 | [],_=>rfl
 |_ :: _,_=>rfl
theorem Qkt:∀ (A:List (List Bool)) (j:Nat),QbY (A.drop 1) j=QbY A (j+1)
 | [],_=>rfl
 |_ :: _,_=>rfl
theorem Qi1 {i:Nat} {t:Tmp}:∀ {ops:List Oper} {As:List (List Bool)} {A:List Bool} {ks:List Nat} {c:Nat},(∀ (j n:Nat),ks[j]?=some n→n=c+j)→QbF i t ops As A ks=false→∀ (k:Nat) o,ops[k]?=some o→o.dst=some t→c+k≠i→Qdq A k=true∨Qdq (QbY As k) i=true
 | [],_,_,_,_,_,_,k,o,ho,_,_=>by simp at ho
 |_ :: _,_,_,[],_,_,h,_,_,_,_,_=>by simp [QbF] at h
 |o' :: os,As,A,n :: ks,c,hk,h,k,o,ho,hd,hne=>by
   have hn:n=c:=by simpa using hk 0 n rfl
   subst hn
   have rest:QbF i t os (As.drop 1) (A.drop 1) ks=false:=by
    unfold QbF at h
    split at h
    ·split at h
     ·split at h
      ·exact h
      ·split at h
       ·exact h
       ·split at h
        ·exact h
        ·cases h
     ·exact h
    ·exact h
   cases k with
   |succ k =>
     have:=Qi1 (c:=n+1) (fun j m hm=>by have:=hk (j+1) m (by simpa using hm);omega) rest k o (by simpa using ho) hd (by omega)
     rwa [Qks,Qkt] at this
   |zero =>
     simp at ho
     subst ho
     unfold QbF at h
     rw [hd] at h
     simp only [Nat.beq_refl] at h
     split at h
     ·exact .inl ‹_›
     ·split at h
      ·exact .inr ‹_›
      ·split at h
       ·rename_i hb
        exact absurd (Nat.eq_of_beq_eq_true hb) (by omega)
       ·cases h
theorem QEG (w:W1) (k:W1→Prop):fW w k=k w:=by cases w<;>simp only [fW,QiJ]
theorem Qrd:∀ (l:List W1) (k:List W1→Prop),fWs l k=k l
 | [],k=>rfl
 |c :: cs,k=>by unfold fWs;rw [QEG,Qrd cs]
theorem Qku {c:W1} {r:List W1} {b:Nat} (h:Qu9 (c :: r) b=false):QuG c b=false∧Qu9 r b=false:=by
 unfold Qu9 at h
 split at h
 ·cases h
 ·exact ⟨‹_›,h⟩
theorem Qre {i b:Nat}:∀ {es:List W1} {As:List (List Bool)} {A:List Bool} {ks:List Nat} {c:Nat},(∀ (j n:Nat),ks[j]?=some n→n=c+j)→Qu9 (Qpp i es As A ks) b=false→∀ k,QuG (QqC es k) b=true→c+k≠i→Qdq A k=true∨Qdq (QbY As k) i=true
 | [],_,_,_,_,_,_,k,hk,_=>by cases hk
 |_ :: _,_,_,[],_,_,h,_,_,_=>by simp [Qpp,Qu9,QuG] at h
 |e :: es,As,A,n :: ks,c,hk,h,k,he,hne=>by
   have hn:n=c:=by simpa using hk 0 n rfl
   subst hn
   have rest:Qu9 (Qpp i es (As.drop 1) (A.drop 1) ks) b=false:=by
    unfold Qpp at h
    split at h
    ·exact h
    ·split at h
     ·exact h
     ·split at h
      ·exact h
      ·split at h
       ·exact h
       ·exact (Qku h).2
   cases k with
   |succ k =>
     have:=Qre (c:=n+1) (fun j m hm=>by have:=hk (j+1) m (by simpa using hm);omega) rest k he (by omega)
     rwa [Qks,Qkt] at this
   |zero =>
     have he:QuG e b=true:=he
     unfold Qpp at h
     split at h
     ·cases he
     ·split at h
      ·rename_i hb
       exact absurd (Nat.eq_of_beq_eq_true hb) (by omega)
      ·split at h
       ·exact .inl ‹_›
       ·split at h
        ·exact .inr ‹_›
        ·rw [(Qku h).1] at he;cases he
theorem Qkv {e:W1}:∀ {l:List (Nat × Option Blk)},Qnv e l=true→∀ n o,(n,o) ∈ l→QuG e n=true
 | [],_,n,o,h=>by cases h
 |(n',o') :: r,h,n,o,hm=>by
   unfold Qnv at h
   split at h
   ·rename_i hf
    rcases List.mem_cons.1 hm with e |hm
    ·injection e with e1 e2;subst e1;exact hf
    ·exact Qkv h n o hm
   ·cases h
theorem Qi2 {inc:List W1} {A:List Bool} {b:Nat}:∀ {own:List (Nat × Nat × Nat)},Qf7 inc A b own=false→Qu9 inc b=false∧∀ k n c,(k,n,c) ∈ own→n≤b→b < n+c→Qdq A k=true
 | [],h=>⟨h,fun k n c hm=>by cases hm⟩
 |(k',n',c') :: r,h=>by
   unfold Qf7 at h
   split at h
   ·split at h
    ·rename_i hk
     obtain ⟨h1,h2⟩:=Qi2 h
     refine ⟨h1,fun k n c hm h3 h4=>?_⟩
     rcases List.mem_cons.1 hm with e |hm
     ·injection e with e1 e2;subst e1;exact hk
     ·exact h2 k n c hm h3 h4
    ·cases h
   ·rename_i hf
    obtain ⟨h1,h2⟩:=Qi2 h
    refine ⟨h1,fun k n c hm h3 h4=>?_⟩
    rcases List.mem_cons.1 hm with e |hm
    ·injection e with e1 e2
     injection e2 with e2 e3
     subst e1;subst e2;subst e3
     have:(Nat.ble n b&&Nat.blt b (n+c))=true:=by
      rw [Bool.and_eq_true]
      exact ⟨by rw [Nat.ble_eq];exact h3,by unfold Nat.blt;rw [Nat.ble_eq];omega⟩
     rw [this] at hf;cases hf
    ·exact h2 k n c hm h3 h4
theorem QgW {lk:Nat→Option Blk}:∀ {l:List (Nat × Option Blk)},Qgk lk l=true→∀ n o,(n,o) ∈ l→∃ x,lk n=some x
 | [],_,n,o,h=>by cases h
 |(n',o') :: r,h,n,o,hm=>by
   unfold Qgk at h
   split at h
   ·cases h
   ·rename_i x hf
    rcases List.mem_cons.1 hm with e |hm
    ·injection e with e1 e2;subst e1;exact ⟨x,hf⟩
    ·exact QgW h n o hm
theorem Qi3 (j n:Nat) (h:lits[j]?=some n):n=0+j:=by
 have e:lits=List.range lits.length:=by decide +kernel
 rw [e] at h
 rcases Nat.lt_or_ge j lits.length with h1 |h1
 ·rw [List.getElem?_range h1] at h
  injection h with h;omega
 ·rw [List.getElem?_eq_none (by simpa using h1)] at h;cases h
structure Stp where
 i:Nat
 dst:Option Tmp
 nm:Nat
 r:Res
def Stp.ovT (n:Nat) (t:Tmp) (s:Stp):Option AV:=match s.dst with
 |some d=>if d=t∧t < n then some s.r.val else none
 |none=>none
def ovS:List (Nat × Option Blk)→Nat→Option (Option Blk)
 | [],_=>none
 |(n,o) :: r,b=>match ovS r b with
   |some x=>some x
   |none=>if b=n then some o else none
def Stp.ovH (b:Nat) (s:Stp):Option (Option Blk):=if s.nm≤b∧b < s.nm+s.r.add.length then some s.r.add[b-s.nm]? else ovS s.r.set b
theorem Qrf:∀ (l:List (Nat × Option Blk)) (H:Nat→Option Blk) (b:Nat),Qfs H l b=(ovS l b).getD (H b)
 | [],H,b=>rfl
 |(n,o) :: r,H,b=>by
   rw [Qfs,Qrf r,ovS]
   cases ovS r b with
   |some x=>rfl
   |none =>
     simp only [Option.getD]
     by_cases h:b=n
     ·simp [h]
     ·simp [h]
theorem QgX:∀ {l:List (Nat × Option Blk)} {b:Nat} {x:Option Blk},ovS l b=some x→∃ o,(b,o) ∈ l
 |(n,o) :: r,b,x,h=>by
   unfold ovS at h
   split at h
   ·rename_i y hy
    obtain ⟨o',ho⟩:=QgX hy
    exact ⟨o',by simp [ho]⟩
   ·split at h
    ·rename_i hb;subst hb;exact ⟨o,by simp⟩
    ·cases h
theorem Qkw (st:St) (s:Stp) (v:AV) (b:Nat):((st.act s.nm s.r).put s.dst v).look b=(s.ovH b).getD (st.look b):=by
 have h:((st.act s.nm s.r).put s.dst v).look b=(st.act s.nm s.r).look b:=by cases s.dst<;>rfl
 rw [h,Qnp,QiQ]
 unfold Stp.ovH
 split
 ·rfl
 ·exact Qrf _ _ _
theorem Qnx (st:St) (s:Stp) (t:Tmp):((st.act s.nm s.r).put s.dst s.r.val).tmp t=(s.ovT st.tmps.length t).getD (st.tmp t):=by
 unfold Stp.ovT
 cases s.dst with
 |none=>rfl
 |some d =>
   show (st.tmps.set d s.r.val).getD t .dead=_
   simp only [List.getD_eq_getElem?_getD,List.getElem?_set]
   by_cases hd:d=t
   ·subst hd
    by_cases hl:d < st.tmps.length
    ·simp [hl]
    ·simp [hl,St.tmp]
   ·simp [hd,St.tmp]
theorem Qi4 (st:St) (s:Stp) (v:AV):((st.act s.nm s.r).put s.dst v).tmps.length=st.tmps.length:=by
 cases hd:s.dst with
 |none=>rfl
 |some d=>simp [St.put,St.act]
theorem Qkx (st:St) (s:Stp) (v:AV):st.heap.length≤((st.act s.nm s.r).put s.dst v).heap.length∧(0 < s.r.add.length→s.nm+s.r.add.length≤((st.act s.nm s.r).put s.dst v).heap.length):=by
 have h:((st.act s.nm s.r).put s.dst v).heap=Qef (Qdv st.heap s.r.set) s.nm s.r.add:=by cases s.dst<;>rfl
 rw [h]
 obtain ⟨h1,h2⟩:=QdW s.r.add (Qdv st.heap s.r.set) s.nm
 have:=Qfw s.r.set st.heap
 exact ⟨by omega,h2⟩
def QdA {α:Type} (ov:Stp→Option α) (p:Nat→Bool):List Stp→α→α
 | [],x=>x
 |s :: r,x=>QdA ov p r (if p s.i then (ov s).getD x else x)
theorem QdX {α:Type} {ov:Stp→Option α} {p q:Nat→Bool}:∀ {l:List Stp} {x:α},(∀ s ∈ l,p s.i≠q s.i→ov s=none)→QdA ov p l x=QdA ov q l x
 | [],_,_=>rfl
 |s :: r,x,h=>by
   unfold QdA
   have:(if p s.i then (ov s).getD x else x)=(if q s.i then (ov s).getD x else x):=by
    by_cases he:p s.i=q s.i
    ·rw [he]
    ·rw [h s (by simp) he];simp
   rw [this]
   exact QdX fun s' hs=>h s' (by simp [hs])
theorem QbR {α:Type} {ov:Stp→Option α} {p:Nat→Bool}:∀ {l:List Stp} {x:α},(∀ s ∈ l,p s.i=true→ov s=none)→QdA ov p l x=x
 | [],_,_=>rfl
 |s :: r,x,h=>by
   unfold QdA
   have:(if p s.i then (ov s).getD x else x)=x:=by
    split
    ·rw [h s (by simp) ‹_›];rfl
    ·rfl
   rw [this]
   exact QbR fun s' hs=>h s' (by simp [hs])
theorem QgY {α:Type} {ov:Stp→Option α} {p p':Nat→Bool} {s0:Stp} (hp0:p s0.i=false) (hp0':p' s0.i=true) (hp':∀ k,k≠s0.i→p' k=p k):∀ {l:List Stp} {x:α},s0 ∈ l→l.Pairwise (fun a b=>a.i < b.i) →
 (∀ s ∈ l,s0.i < s.i→p s.i=true→ov s0=none∨ov s=none)→QdA ov p' l x=(ov s0).getD (QdA ov p l x)
 | [],_,hm,_,_=>by cases hm
 |s :: r,x,hm,hw,h=>by
   obtain ⟨hw1,hw2⟩:=List.pairwise_cons.1 hw
   unfold QdA
   rcases List.mem_cons.1 hm with rfl |hm
   ·rw [hp0,hp0']
    simp only [if_true,Bool.false_eq_true,if_false]
    have e:∀ y,QdA ov p' r y=QdA ov p r y:=fun y=>QdX fun s hs hne=>absurd (hp' s.i (by have:=hw1 s hs;omega)) hne
    rw [e]
    cases ho:ov s0 with
    |none=>rfl
    |some y =>
      simp only [Option.getD]
      exact QbR fun s hs hps=>(h s (by simp [hs]) (hw1 s hs) hps).resolve_left (by rw [ho];simp)
   ·have hlt:=hw1 s0 hm
    rw [hp' s.i (by omega)]
    exact QgY hp0 hp0' hp' hm hw2 fun s' hs=>h s' (by simp [hs])
section
variable (T:Tab) (ops:Array Oper) (As:List (List Bool)) (efs:List W1)
def Anc (i k:Nat):Prop:=Qdq (QbY As i) k=true
structure QEz (prev:List Stp) (st:St) (o:Oper) (s:Stp):Prop where
 dst:s.dst=o.dst
 nm:st.heap.length≤s.nm
 lt:∀ k,Anc As s.i k→k < s.i
 seen:∀ (k:Nat) o' d,k < s.i→ops[k]?=some o'→o'.dst=some d→o.dst=some d→Anc As s.i k∨Anc As k s.i
 views:∃ (ht:Tmp→Bool) (hb:Nat→Bool),
  (∀ t,ht t=false→∀ (k:Nat) o',ops[k]?=some o'→o'.dst=some t→k≠s.i→Anc As s.i k∨Anc As k s.i) ∧
  (∀ b,hb b=false→(∀ k,QuG (QqC efs k) b=true→k≠s.i→Anc As s.i k∨Anc As k s.i)∧∀ s' ∈ prev,s'.nm≤b→b < s'.nm+s'.r.add.length→Anc As s.i s'.i) ∧
  (∀ n x,(n,x) ∈ s.r.set→∃ y,Qcq st hb n=some y) ∧
  (∀ n x,(n,x) ∈ s.r.set→QuG (QqC efs s.i) n=true) ∧
  (((Qan ops o=some none∨∃ d want,Qan ops o=some (some (d,want))∧ht d=false∧st.tmp d=.cell (bv want)) ∧
      dstep T (QgS st ht) (Qcq st hb) s.nm o=some s.r∧(∀ q,s.r.pre=some q→q)) ∨
    (∃ d want,Qan ops o=some (some (d,want))∧ht d=false∧(st.tmp d=.cell (bv (!want))∨st.tmp d=.tup [])∧s.r={ pre:=none,val:=.tup [],add:=[],set:=[] }))
inductive Run:Nat→List Stp→List Oper→St→List Stp→St→Prop where
 |nil {c prev st}:Run c prev [] st [] st
 |cons {c prev st o l s rest st'}:s.i=c→QEz T ops As efs prev st o s→Run (c+1) (prev++[s]) l ((st.act s.nm s.r).put s.dst s.r.val) rest st'→Run c prev (o :: l) st (s :: rest) st'
end
section
variable {T:Tab} {ops:Array Oper} {As:List (List Bool)} {efs:List W1}
theorem Qny {st:St} {d:Tmp} {v:AV} (h:st.tmp d=v):st.put (some d) v=st:=by
 show { st with tmps:=st.tmps.set d v }=st
 have:st.tmps.set d v=st.tmps:=by
  apply List.ext_getElem?
  intro i
  rw [List.getElem?_set]
  by_cases hd:d=i
  ·subst hd
   by_cases hl:d < st.tmps.length
   ·simp [hl]
    rw [← h]
    simp [St.tmp,hl]
   ·simp [hl]
  ·simp [hd]
 rw [this]
theorem Ql7:∀ (l:List Oper) (c:Nat) (is:List Nat) (own:List (Nat × Nat × Nat)) (prev:List Stp) {st:St} {K:St→Prop},
 ops.toList.drop c=l→(∀ (j n:Nat),is[j]?=some n→n=c+j)→(∀ s ∈ prev,s.r.add≠[]→(s.i,s.nm,s.r.add.length) ∈ own)→exM T ops As efs l is own st K →
 ∃ rs st',Run T ops As efs c prev l st rs st'∧K st'
 | [],c,is,own,prev,st,K,_,_,_,h=>⟨[],st,.nil,h⟩
 |o :: l,c,[],own,prev,st,K,_,_,_,h=>h.elim
 |o :: l,c,i :: is,own,prev,st,K,hd,hi,ho,h=>by
   have hc:i=c:=by simpa using hi 0 i rfl
   subst hc
   have hi':∀ (j n:Nat),is[j]?=some n→n=i+1+j:=fun j n hn=>by have:=hi (j+1) n (by simpa using hn);omega
   have hd':ops.toList.drop (i+1)=l:=by
    have:=congrArg (List.drop 1) hd
    simpa using this
   unfold exM at h
   split at h
   ·exact h.elim
   ·rename_i hchk
    rw [Bool.and_eq_true] at hchk
    obtain ⟨hle,hseen⟩:=hchk
    rw [Qrd] at h
    generalize hinc:Qpp i efs As (QbY As i) lits=inc at h
    have lt:∀ k,Anc As i k→k < i:=fun k hk=>Qnw hle hk
    have seen:∀ (k:Nat) o' d,k < i→ops[k]?=some o'→o'.dst=some d→o.dst=some d→Anc As i k∨Anc As k i:=by
     intro k o' d hk hko hd1 hd2
     unfold Ql4 at hseen
     rw [hd2] at hseen
     simp only at hseen
     split at hseen
     ·cases hseen
     ·rename_i hf
      exact Qi1 (c:=0) (fun j n h=>Qi3 j n h) hf k o' (by rw [List.getElem?_take,if_pos hk,Array.getElem?_toList];exact hko) hd1 (by omega)
    have v1:∀ t,QbF i t ops.toList As (QbY As i) lits=false→∀ (k:Nat) o',ops[k]?=some o'→o'.dst=some t→k≠i→Anc As i k∨Anc As k i:=by
     intro t ht k o' hk hd1 hne
     exact Qi1 (c:=0) (fun j n h=>Qi3 j n h) ht k o' (by rw [Array.getElem?_toList];exact hk) hd1 (by omega)
    have v2:∀ b,Qf7 inc (QbY As i) b own=false→(∀ k,QuG (QqC efs k) b=true→k≠i→Anc As i k∨Anc As k i)∧∀ s' ∈ prev,s'.nm≤b→b < s'.nm+s'.r.add.length→Anc As i s'.i:=by
     intro b hb
     obtain ⟨h1,h2⟩:=Qi2 hb
     refine ⟨fun k hk hne=>Qre (c:=0) (fun j n h=>Qi3 j n h) (by rw [hinc];exact h1) k hk (by omega),fun s' hs h3 h4=>h2 _ _ _ (ho s' hs ?_) h3 h4⟩
     intro e;rw [e] at h4;simp at h4;omega
    have do_:∀ {st:St},(Qan ops o=some none∨∃ d want,Qan ops o=some (some (d,want))∧QbF i d ops.toList As (QbY As i) lits=false∧st.tmp d=.cell (bv want)) →
     (Qam lits st.heap st.heap.length fun nm=>doM T o (fun t=>QbF i t ops.toList As (QbY As i) lits) (fun b=>Qf7 inc (QbY As i) b own) (QqC efs i) nm st fun st' add=>exM T ops As efs l is (QeT own i nm add) st' K) →
     ∃ rs st',Run T ops As efs i prev (o :: l) st rs st'∧K st':=by
     intro st hg h
     obtain ⟨nm,hnm,h⟩:=named h
     unfold doM at h
     split at h
     ·rename_i r hr
      obtain ⟨hp,h⟩:=Qnq h
      rw [QqR] at h
      split at h
      ·rename_i hs
       rw [Bool.and_eq_true] at hs
       rw [QaW] at h
       obtain ⟨rs,st',h1,h2⟩:=Ql7 l (i+1) is (QeT own i nm r.add) (prev++[{ i:=i,dst:=o.dst,nm:=nm,r:=r }]) hd' hi' (fun s hs hne=>by
        rcases List.mem_append.1 hs with hs |hs
        ·have:=ho s hs hne
         cases r.add with
         |nil=>exact this
         |cons _ _=>exact List.mem_cons_of_mem _ this
        ·simp at hs
         subst hs
         simp only at hne ⊢
         cases hra:r.add with
         |nil=>exact absurd hra hne
         |cons x y=>simp [QeT]) h
       exact ⟨_,st',.cons rfl ⟨rfl,hnm,lt,seen,_,_,v1,v2,fun n x hx=>QgW hs.1 n x hx,fun n x hx=>Qkv hs.2 n x hx,.inl ⟨hg,hr,hp⟩⟩ h1,h2⟩
      ·exact h.elim
     ·exact h.elim
    have skip_:∀ {st:St} {d:Tmp} {want:Bool},Qan ops o=some (some (d,want))→QbF i d ops.toList As (QbY As i) lits=false→(st.tmp d=.cell (bv (!want))∨st.tmp d=.tup [])→exM T ops As efs l is own (st.put o.dst (.tup [])) K →
     ∃ rs st',Run T ops As efs i prev (o :: l) st rs st'∧K st':=by
     intro st d want hg hh ht h
     obtain ⟨rs,st',h1,h2⟩:=Ql7 l (i+1) is own (prev++[{ i:=i,dst:=o.dst,nm:=st.heap.length,r:={ pre:=none,val:=.tup [],add:=[],set:=[] } }]) hd' hi' (fun s hs hne=>by
      rcases List.mem_append.1 hs with hs |hs
      ·exact ho s hs hne
      ·simp at hs;subst hs;simp at hne) h
     exact ⟨_,st',.cons rfl ⟨rfl,Nat.le_refl _,lt,seen,_,_,v1,v2,fun n x hx=>(by cases hx),fun n x hx=>(by cases hx),.inr ⟨d,want,hg,hh,ht,rfl⟩⟩ h1,h2⟩
    split at h
    ·exact h.elim
    ·rename_i hg
     exact do_ (.inl hg) h
    ·rename_i d want hg
     split at h
     ·rename_i b hb
      have hvis:QbF i d ops.toList As (QbY As i) lits=false∧st.tmp d=.cell (bv b):=by
       unfold QgS at hb
       simp only at hb
       split at hb
       ·cases hb
       ·exact ⟨‹_›,hb⟩
      cases b with
      |true =>
        simp only [Br] at h
        rw [QaW,Qny hvis.2] at h
        cases want with
        |true=>exact do_ (.inr ⟨d,true,hg,hvis.1,hvis.2⟩) h
        |false=>simp only [QaW] at h;exact skip_ hg hvis.1 (.inl hvis.2) h
      |false =>
        simp only [Br] at h
        rw [QaW,Qny hvis.2] at h
        cases want with
        |false=>exact do_ (.inr ⟨d,false,hg,hvis.1,hvis.2⟩) h
        |true=>simp only [QaW] at h;exact skip_ hg hvis.1 (.inl hvis.2) h
     ·rename_i hb
      have hvis:QbF i d ops.toList As (QbY As i) lits=false∧st.tmp d=.tup []:=by
       unfold QgS at hb
       simp only at hb
       split at hb
       ·cases hb
       ·exact ⟨‹_›,hb⟩
      rw [QaW] at h
      exact skip_ hg hvis.1 (.inr hvis.2) h
     ·exact h.elim
theorem Run.idx:∀ {c:Nat} {prev:List Stp} {l:List Oper} {st:St} {rs:List Stp} {st':St},Run T ops As efs c prev l st rs st'→rs.length=l.length∧(∀ (j:Nat) s,rs[j]?=some s→s.i=c+j)∧rs.Pairwise (fun a b=>a.i < b.i)∧∀ s ∈ rs,c≤s.i:=by
 intro c prev l st rs st' h
 induction h with
 |nil=>exact ⟨rfl,fun j s h=>by simp at h,List.Pairwise.nil,fun s h=>by cases h⟩
 |cons hi hf _ ih =>
   obtain ⟨h1,h2,h3,h4⟩:=ih
   refine ⟨by simp [h1],fun j s hj=>?_,List.pairwise_cons.2 ⟨fun s hs=>by have:=h4 s hs;omega,h3⟩,fun s hs=>?_⟩
   ·cases j with
    |zero=>simp at hj;subst hj;simpa using hi
    |succ j=>have:=h2 j s (by simpa using hj);omega
   ·rcases List.mem_cons.1 hs with rfl |hs
    ·omega
    ·have:=h4 s hs;omega
structure AtJ (st:St) (rs:List Stp) (c:Nat) (sti:St):Prop where
 tmp:∀ t,sti.tmp t=QdA (Stp.ovT st.tmps.length t) (fun k=>decide (k < c)) rs (st.tmp t)
 look:∀ b,sti.look b=QdA (Stp.ovH b) (fun k=>decide (k < c)) rs (st.look b)
 len:sti.tmps.length=st.tmps.length
 heap:st.heap.length≤sti.heap.length
 add:∀ s ∈ rs,s.i < c→0 < s.r.add.length→s.nm+s.r.add.length≤sti.heap.length
 later:∀ s ∈ rs,c≤s.i→sti.heap.length≤s.nm
theorem Run.nmge:∀ {c:Nat} {prev:List Stp} {l:List Oper} {st:St} {rs:List Stp} {st':St},Run T ops As efs c prev l st rs st'→∀ s ∈ rs,st.heap.length≤s.nm:=by
 intro c prev l st rs st' hrun
 induction hrun with
 |nil=>intro s h;cases h
 | @cons c prev stx o l s rest st' hi hfx hr ih =>
   intro s2 h2
   rcases List.mem_cons.1 h2 with rfl |h2
   ·exact hfx.nm
   ·have:=ih s2 h2
    have:=(Qkx stx s s.r.val).1
    omega
theorem Run.at_:∀ {c:Nat} {prev:List Stp} {l:List Oper} {st:St} {rs:List Stp} {st':St},Run T ops As efs c prev l st rs st' →
 (∀ (j:Nat) s,rs[j]?=some s→∃ o sti,l[j]?=some o∧QEz T ops As efs (prev++rs.take j) sti o s∧AtJ st rs (c+j) sti)∧AtJ st rs (c+l.length) st':=by
 intro c prev l st rs st' h
 induction h with
 |nil=>exact ⟨fun j s h=>by simp at h,⟨fun _=>rfl,fun _=>rfl,rfl,Nat.le_refl _,fun s h=>(by cases h),fun s h=>(by cases h)⟩⟩
 | @cons c prev st o l s rest st' hi hf hr ih =>
   obtain ⟨h1,h2⟩:=ih
   obtain ⟨_,_,_,hge⟩:=hr.idx
   have up:∀ {j:Nat} {sti:St},AtJ ((st.act s.nm s.r).put s.dst s.r.val) rest (c+1+j) sti→AtJ st (s :: rest) (c+(j+1)) sti:=by
    intro j sti h
    have e:c+(j+1)=c+1+j:=by omega
    rw [e]
    have hlt:decide (s.i < c+1+j)=true:=by simp;omega
    obtain ⟨g1,g2⟩:=Qkx st s s.r.val
    refine ⟨fun t=>?_,fun b=>?_,by rw [h.len,Qi4],by have:=h.heap;omega,fun s' hs' hlt' hpos=>?_,fun s' hs' hge'=>?_⟩
    ·rw [h.tmp,Qnx,Qi4]
     show _=QdA _ _ rest (if decide (s.i < c+1+j) then _ else _)
     rw [hlt];rfl
    ·rw [h.look,Qkw]
     show _=QdA _ _ rest (if decide (s.i < c+1+j) then _ else _)
     rw [hlt];rfl
    ·rcases List.mem_cons.1 hs' with rfl |hs'
     ·have:=g2 hpos;have:=h.heap;omega
     ·exact h.add s' hs' hlt' hpos
    ·rcases List.mem_cons.1 hs' with rfl |hs'
     ·omega
     ·exact h.later s' hs' hge'
   refine ⟨fun j s' hj=>?_,?_⟩
   ·cases j with
    |zero =>
      simp at hj
      subst hj
      have hno:∀ s' ∈ (s :: rest),decide (s'.i < c+0)=true→False:=by
       intro s' hs' hlt
       simp at hlt
       rcases List.mem_cons.1 hs' with rfl |hs'
       ·omega
       ·have:=hge s' hs';omega
      refine ⟨o,st,rfl,by simpa using hf,⟨fun t=>?_,fun b=>?_,rfl,Nat.le_refl _,fun s' hs' hlt=>absurd (by simpa using hlt) (hno s' hs'),fun s' hs' _=>(Run.cons hi hf hr).nmge s' hs'⟩⟩
      ·exact (QbR fun s' hs' hlt=>(hno s' hs' hlt).elim).symm
      ·exact (QbR fun s' hs' hlt=>(hno s' hs' hlt).elim).symm
    |succ j =>
      obtain ⟨o',sti,g1,g2,g3⟩:=h1 j s' (by simpa using hj)
      exact ⟨o',sti,by simpa using g1,by simpa using g2,up g3⟩
   ·have:=up h2
    simpa using this
end
theorem Sim.congr {st st':St} {E:Env} {a:Act} (h:Sim st E a) (hl:st'.tmps.length=st.tmps.length) (ht:∀ t,st'.tmp t=st.tmp t) (hb:∀ b,st'.look b=st.look b) (hU:∀ b,E.U b→b < st'.heap.length):Sim st' E a:=by
 refine ⟨h.defers,h.len.trans hl.symm,fun i x hx=>?_,h.ok,fun b=>(h.H b).trans (hb b).symm,hU⟩
 have hi:i < st'.tmps.length:=(List.getElem?_eq_some_iff.1 hx).1
 have h1:=ht i
 unfold St.tmp at h1
 rw [List.getD_eq_getElem?_getD,List.getD_eq_getElem?_getD,hx] at h1
 have h2:st.tmps[i]?=some st.tmps[i]:=List.getElem?_eq_getElem (by omega)
 rw [h2] at h1
 simp at h1
 subst h1
 exact h.tmp i _ h2
def Qvb (E:Env):Env:={ E with w:={ E.w with drawn:=E.w.drawn+1 } }
theorem QgZ (E:Env):Ext E (Qvb E):=⟨fun g h=>⟨h,rfl⟩,fun _ h=>h,fun b x' _ h=>⟨x',h,rfl,rfl,fun g cs el _ h=>⟨cs,h,rfl⟩⟩⟩
theorem Sim.draw {st:St} {E:Env} {a:Act} (h:Sim st E a):Sim st (Qvb E) a:=by
 refine ⟨h.defers,h.len,fun i x hx=>?_,⟨fun b x hx=>?_,h.ok.inj,h.ok.st⟩,h.H,h.U⟩
 ·obtain ⟨v,h1,h2⟩:=h.tmp i x hx
  exact ⟨v,h1,h2.ext (QgZ E)⟩
 ·obtain ⟨h1,h2,h3⟩:=h.ok.blk b x hx
  exact ⟨h1,h2.ext (QgZ E) rfl fun _ _=>rfl,h3⟩
theorem Fr.draw {E0 E:Env} (h:Fr E0 E):Fr E0 (Qvb E) :=
 ⟨⟨h.fr.os,h.fr.tape,h.fr.output,h.fr.size,h.fr.old,h.fr.own,h.fr.S⟩,h.ext.trans (QgZ E)⟩
section
variable {P:Program} {T:Tab} {ops:Array Oper} {As:List (List Bool)} {efs:List W1}
structure Inv (As:List (List Bool)) (st:St) (rs:List Stp) (E0:Env) (D:Nat→Bool) (a:Act) (w:World):Prop where
 ex:∃ st' E,E.w=w∧Sim st' E a∧Fr E0 E∧st'.tmps.length=st.tmps.length∧(∀ t,st'.tmp t=QdA (Stp.ovT st.tmps.length t) D rs (st.tmp t)) ∧
  (∀ b,st'.look b=QdA (Stp.ovH b) D rs (st.look b))∧(∀ b,E.U b→b < st.heap.length∨∃ s ∈ rs,D s.i=true∧s.nm≤b∧b < s.nm+s.r.add.length)
 closed:∀ k j,D k=true→Anc As k j→D j=true
theorem Inv.step (hT:Qae P T) (hP:Qe P T) {st stn:St} {rs:List Stp} {E0:Env} {D:Nat→Bool} {a:Act} {w:World} {i:Nat} {K:Act→World→Prop} {Q:Exit→Act→World→Prop}
 (hr:Run T ops As efs 0 [] ops.toList st rs stn) (hi:i < ops.size) (hD:D i=false) (hdep:∀ j,Anc As i j→D j=true) (h:Inv As st rs E0 D a w)
 (hK:∀ a' w',Inv As st rs E0 (fun k=>D k||Nat.beq k i) a' w'→K a' w'):wpOp P ops Q i K a w:=by
 obtain ⟨⟨st',E,rfl,hs,hf,hlen,htm,hlk,hU⟩,hcl⟩:=h
 obtain ⟨hrl,hidx,hpw,_⟩:=hr.idx
 obtain ⟨hat,_⟩:=hr.at_
 have hi':i < rs.length:=by rw [hrl];simpa using hi
 have hsi:rs[i]?=some rs[i]:=List.getElem?_eq_getElem hi'
 generalize rs[i]=s at hsi
 have hsm:s ∈ rs:=List.mem_of_getElem? hsi
 obtain ⟨o,sti,ho,hfact,hst⟩:=hat i s hsi
 have e0:s.i=i:=by have:=hidx i s hsi;omega
 simp only [Nat.zero_add] at hst
 simp only [List.nil_append] at hfact
 have hoi:ops[i]?=some o:=by rw [← Array.getElem?_toList];exact ho
 have step:∀ s' ∈ rs,∃ o' sti',ops[s'.i]?=some o'∧QEz T ops As efs (rs.take s'.i) sti' o' s'∧AtJ st rs s'.i sti':=by
  intro s' hs'
  obtain ⟨j,hj⟩:=List.mem_iff_getElem?.1 hs'
  obtain ⟨o',sti',g1,g2,g3⟩:=hat j s' hj
  have e:s'.i=j:=by have:=hidx j s' hj;omega
  rw [e]
  exact ⟨o',sti',by rw [← Array.getElem?_toList];exact g1,by simpa using g2,by simpa using g3⟩
 have before:∀ s1 ∈ rs,∀ s2 ∈ rs,s1.i < s2.i→0 < s1.r.add.length→s1.nm+s1.r.add.length≤s2.nm:=by
  intro s1 h1 s2 h2 hlt hpos
  obtain ⟨_,sti',_,g2,g3⟩:=step s2 h2
  have:=g3.add s1 h1 hlt hpos
  have:=g2.nm
  omega
 have inTake:∀ s1 ∈ rs,s1.i < i→s1 ∈ rs.take i:=by
  intro s1 h1 hlt
  obtain ⟨j,hj⟩:=List.mem_iff_getElem?.1 h1
  have e:s1.i=j:=by have:=hidx j s1 hj;omega
  exact List.mem_of_getElem? (i:=j) (by rw [List.getElem?_take,if_pos (by omega)];exact hj)
 obtain ⟨ht,hb,v1,v2,v3,v4,hact⟩:=hfact.views
 rw [e0] at v1 v2 v4
 have same:∀ s1 ∈ rs,s1.i=i→s1=s:=by
  intro s1 h1 he
  obtain ⟨j,hj⟩:=List.mem_iff_getElem?.1 h1
  have e:s1.i=j:=by have:=hidx j s1 hj;omega
  have:j=i:=by omega
  subst this
  rw [hj] at hsi;injection hsi
 have viewT:∀ t,ht t=false→st'.tmp t=sti.tmp t:=by
  intro t h1
  rw [htm,hst.tmp]
  refine QdX fun s1 hs1 hne=>?_
  obtain ⟨o1,_,g1,g2,_⟩:=step s1 hs1
  cases ho1:s1.ovT st.tmps.length t with
  |none=>rfl
  |some y =>
    exfalso
    have hd1:o1.dst=some t:=by
     rw [← g2.dst]
     unfold Stp.ovT at ho1
     cases hd:s1.dst with
     |none=>rw [hd] at ho1;cases ho1
     |some d =>
       rw [hd] at ho1
       simp only at ho1
       split at ho1
       ·rename_i hc;rw [hc.1]
       ·cases ho1
    by_cases he:s1.i=i
    ·rw [he] at hne;exact hne (by rw [hD];simp)
    ·rcases v1 t h1 s1.i o1 g1 hd1 he with hanc |hanc
     ·have h2:=hdep _ hanc
      have h3:=hfact.lt _ (e0 ▸ hanc)
      exact hne (by rw [h2];simp;omega)
     ·have h3:=g2.lt _ hanc
      cases hds:D s1.i with
      |true=>have:=hcl _ _ hds hanc;rw [hD] at this;cases this
      |false=>exact hne (by rw [hds];simp;omega)
 have viewB:∀ b x,Qcq sti hb b=some x→st'.look b=some x:=by
  intro b x hx
  unfold Qcq at hx
  cases hbb:hb b with
  |true=>rw [hbb] at hx;cases hx
  |false =>
    rw [hbb] at hx
    simp only at hx
    have hblt:b < sti.heap.length:=by
     rcases Nat.lt_or_ge b sti.heap.length with h |h
     ·exact h
     ·unfold St.look at hx
      rw [List.getElem?_eq_none h] at hx
      cases hx
    rw [← hx,hlk,hst.look]
    obtain ⟨w1,w2⟩:=v2 b hbb
    refine QdX fun s1 hs1 hne=>?_
    obtain ⟨o1,sti1,g1,g2,g3⟩:=step s1 hs1
    by_cases he:s1.i=i
    ·exact absurd (by rw [he,hD];simp) hne
    cases ho1:s1.ovH b with
    |none=>rfl
    |some y =>
      exfalso
      unfold Stp.ovH at ho1
      split at ho1
      ·rename_i hrng
       rcases Nat.lt_or_ge s1.i i with hlt |hge
       ·have hanc:=w2 s1 (inTake s1 hs1 hlt) hrng.1 hrng.2
        exact hne (by rw [hdep _ hanc];simp [hlt])
       ·have:=hst.later s1 hs1 hge
        omega
      ·rename_i hrng
       obtain ⟨oo,hoo⟩:=QgX ho1
       obtain ⟨_,_,_,_,_,u4,_⟩:=g2.views
       rcases w1 s1.i (u4 _ _ hoo) he with hanc |hanc
       ·have h3:=hfact.lt _ (e0 ▸ hanc)
        exact hne (by rw [hdep _ hanc];simp;omega)
       ·have h3:=g2.lt _ hanc
        cases hds:D s1.i with
        |true=>have:=hcl _ _ hds hanc;rw [hD] at this;cases this
        |false=>exact hne (by rw [hds];simp;omega)
 have hev:∀ x,AVR E (QgS sti ht x) (a.eval x):=by
  intro x
  cases x with
  |tmp t =>
    show AVR E (match ht t with |true=>.dead |false=>sti.tmp t) _
    cases h1:ht t with
    |true=>trivial
    |false=>rw [← viewT t h1];exact hs.at_ t
  |const v=>exact hs.eval (.const v)
  |func f=>exact hs.eval (.func f)
  |global g=>trivial
 have apart:∀ s1 ∈ rs,i < s1.i→D s1.i=true→∃ o1 sti1,ops[s1.i]?=some o1∧QEz T ops As efs (rs.take s1.i) sti1 o1 s1∧¬ Anc As s1.i i:=by
  intro s1 hs1 hlt hd1
  obtain ⟨o1,sti1,g1,g2,_⟩:=step s1 hs1
  exact ⟨o1,sti1,g1,g2,fun hanc=>by have:=hcl _ _ hd1 hanc;rw [hD] at this;cases this⟩
 have dT:∀ t,∀ s1 ∈ rs,s.i < s1.i→D s1.i=true→s.ovT st.tmps.length t=none∨s1.ovT st.tmps.length t=none:=by
  intro t s1 hs1 hlt hd1
  rw [e0] at hlt
  obtain ⟨o1,sti1,g1,g2,hna⟩:=apart s1 hs1 hlt hd1
  unfold Stp.ovT
  cases hd:s.dst with
  |none=>exact .inl rfl
  |some d =>
    cases hd':s1.dst with
    |none=>exact .inr rfl
    |some d' =>
      by_cases h1:d=t
      ·by_cases h2:d'=t
       ·exfalso
        rcases g2.seen i o d hlt hoi (by rw [← hfact.dst];exact hd) (by rw [← g2.dst,hd',h1,h2]) with hanc |hanc
        ·exact hna hanc
        ·have:=hfact.lt _ (e0 ▸ hanc);omega
       ·exact .inr (by simp [h2])
      ·exact .inl (by simp [h1])
 have dB:∀ b,∀ s1 ∈ rs,s.i < s1.i→D s1.i=true→s.ovH b=none∨s1.ovH b=none:=by
  intro b s1 hs1 hlt hd1
  rw [e0] at hlt
  obtain ⟨o1,sti1,g1,g2,hna⟩:=apart s1 hs1 hlt hd1
  obtain ⟨ht1,hb1,_,u2,u3,u4,_⟩:=g2.views
  cases hx:s.ovH b with
  |none=>exact .inl rfl
  |some y =>
    cases hx1:s1.ovH b with
    |none=>exact .inr rfl
    |some y1 =>
      exfalso
      have see:∀ {stz:St} {hz:Nat→Bool} {n:Nat} {z:Blk},Qcq stz hz n=some z→hz n=false∧n < stz.heap.length:=by
       intro stz hz n z h
       unfold Qcq at h
       cases hh:hz n with
       |true=>rw [hh] at h;cases h
       |false =>
         rw [hh] at h
         refine ⟨rfl,?_⟩
         rcases Nat.lt_or_ge n stz.heap.length with h1 |h1
         ·exact h1
         ·simp only at h
          unfold St.look at h
          rw [List.getElem?_eq_none h1] at h
          cases h
      have hs_take:s ∈ rs.take s1.i:=List.mem_of_getElem? (i:=i) (by rw [List.getElem?_take,if_pos hlt];exact hsi)
      unfold Stp.ovH at hx hx1
      split at hx1
      ·rename_i hr1
       split at hx
       ·rename_i hr0
        have:=before s hsm s1 hs1 (by omega) (by omega)
        omega
       ·obtain ⟨oo,hoo⟩:=QgX hx
        obtain ⟨z,hz⟩:=v3 _ _ hoo
        have h5:=(see hz).2
        have h6:=hst.later s1 hs1 (by omega)
        omega
      ·obtain ⟨o1',ho1⟩:=QgX hx1
       obtain ⟨z,hz⟩:=u3 _ _ ho1
       obtain ⟨w1,w2⟩:=u2 b (see hz).1
       split at hx
       ·rename_i hr0
        have:=w2 s hs_take hr0.1 hr0.2
        rw [e0] at this
        exact hna this
       ·obtain ⟨oo,hoo⟩:=QgX hx
        rcases w1 i (v4 _ _ hoo) (by omega) with hanc |hanc
        ·exact hna hanc
        ·have:=hfact.lt _ (e0 ▸ hanc);omega
 have next:∀ (E':Env) (a':Act) (sn:St),Sim sn E' a'→Fr E0 E'→sn=(st'.act s.nm s.r).put s.dst s.r.val→(∀ b,E'.U b→E.U b∨(s.nm≤b∧b < s.nm+s.r.add.length))→K a' E'.w:=by
  intro E' a' sn hs' hf' hsn hU'
  have hD0:D s.i=false:=by rw [e0];exact hD
  have hD1:(D s.i||Nat.beq s.i i)=true:=by rw [e0];simp
  have hD2:∀ k,k≠s.i→(D k||Nat.beq k i)=D k:=by
   intro k hk
   have:Nat.beq k i=false:=by
    cases hb:Nat.beq k i with
    |false=>rfl
    |true=>exact absurd (Nat.eq_of_beq_eq_true hb) (by omega)
   rw [this,Bool.or_false]
  refine hK a' E'.w ⟨⟨sn,E',rfl,hs',hf',?_,fun t=>?_,fun b=>?_,fun b hb=>?_⟩,fun k j hk hj=>?_⟩
  ·rw [hsn,Qi4,hlen]
  ·rw [hsn,Qnx,hlen,htm,QgY (p:=D) (p':=fun k=>D k||Nat.beq k i) hD0 hD1 hD2 hsm hpw (dT t)]
  ·rw [hsn,Qkw,hlk,QgY (p:=D) (p':=fun k=>D k||Nat.beq k i) hD0 hD1 hD2 hsm hpw (dB b)]
  ·rcases hU' b hb with hb |hb
   ·rcases hU b hb with h1 |⟨s1,h1,h2,h3⟩
    ·exact .inl h1
    ·exact .inr ⟨s1,h1,by simp [h2],h3⟩
   ·exact .inr ⟨s,hsm,hD1,hb⟩
  ·simp only [Bool.or_eq_true] at hk ⊢
   rcases hk with hk |hk
   ·exact .inl (hcl _ _ hk hj)
   ·have:=Nat.eq_of_beq_eq_true hk
    subst this
    exact .inl (hdep _ hj)
 have hgd:∀ {d:Tmp} {want b:Bool},Qan ops o=some (some (d,want))→ht d=false→sti.tmp d=.cell (bv b)→Region.wanted o (yielded ops a.tmps)=(b == want):=by
  intro d want b hg h1 h2
  exact (Qkk hs hg (by rw [viewT d h1];exact h2)).1
 unfold wpOp
 rw [hoi]
 simp only
 rcases hact with ⟨hg,hr',hp⟩ |⟨d,want,hg,h1,h2,hr'⟩
 ·have hw:Region.wanted o (yielded ops a.tmps)=true:=by
   rcases hg with hg |⟨d,want,hg,h1,h2⟩
   ·exact Qia hg _
   ·rw [hgd hg h1 h2];simp
  rw [if_pos hw]
  refine .inl (QgM hT hP hs.ok hev (fun b x hx=>(hs.H b).trans (viewB b x hx)) hr' hp (fun k hk hUk=>?_) fun E' v k1 k2=>?_)
  ·rcases hU _ hUk with h3 |⟨s1,h3,h4,h5,h6⟩
   ·have:=hst.heap;have:=hfact.nm;omega
   ·rcases Nat.lt_trichotomy s1.i i with hl |hl |hl
    ·have:=before s1 h3 s hsm (by omega) (by omega);omega
    ·rw [hl,hD] at h4;cases h4
    ·have:=before s hsm s1 h3 (by omega) (by omega);omega
  ·have hsim:=hs.step (dst:=o.dst) k1 k2
   refine next E' _ _ hsim (hf.step k1) (by rw [hfact.dst]) fun b hb=>(k1.U b).1 hb
 ·have hw:Region.wanted o (yielded ops a.tmps)=false:=by
   rcases h2 with h2 |h2
   ·rw [hgd hg h1 h2]
    cases want<;>rfl
   ·exact Qkl hs hg (by rw [viewT d h1];exact h2)
  rw [if_neg (by rw [hw];simp)]
  refine next E _ _ (hs.skip o.dst) hf ?_ fun b hb=>.inl hb
  rw [hr',hfact.dst]
  cases o.dst<;>rfl
theorem Qrg {listed:Array Bool} {i:Nat} (hi:i < listed.size) (h:listed.getD i false=false):(listed.setIfInBounds i true).toList.count false+1=listed.toList.count false:=by
 rw [Array.toList_setIfInBounds]
 have hi':i < listed.toList.length:=by simpa using hi
 have e:listed.toList[i]=false:=by
  rw [Array.getD_eq_getD_getElem?,Array.getElem?_eq_getElem hi] at h
  simpa using h
 clear hi h
 generalize listed.toList=l at hi' e
 induction l generalizing i with
 |nil=>simp at hi'
 |cons x l ih =>
   cases i with
   |zero =>
     simp at e
     subst e
     simp
   |succ i =>
     have:=ih (i:=i) (by simpa using hi') (by simpa using e)
     simp only [List.set_cons_succ,List.count_cons]
     omega
theorem QBL (hT:Qae P T) (hP:Qe P T) {st stn:St} {rs:List Stp} {E0:Env} {Q:Exit→Act→World→Prop} {K:St→Prop} (hA:QD6 ops.toList As)
 (hr:Run T ops As efs 0 [] ops.toList st rs stn) (hk:K stn) (hq:∀ st' E' a',Sim st' E' a'→Fr E0 E'→K st'→Q .normal a' E'.w) :
 ∀ (fuel:Nat) (listed:Array Bool) (a:Act) (w:World),listed.size=ops.size→listed.toList.count false≤fuel→Inv As st rs E0 (fun k=>listed.getD k false) a w→wpAny P .any ops Q fuel listed a w:=by
 have lt:∀ i,i < ops.size→∀ k,Anc As i k→k < i:=by
  intro i hi k hanc
  obtain ⟨hrl,hidx,_,_⟩:=hr.idx
  have hi':i < rs.length:=by rw [hrl];simpa using hi
  have hsi:rs[i]?=some rs[i]:=List.getElem?_eq_getElem hi'
  obtain ⟨o,sti,_,hf,_⟩:=hr.at_.1 i _ hsi
  have e0:=hidx i _ hsi
  have e1:rs[i].i=i:=by omega
  have:=hf.lt k (by rw [e1];exact hanc)
  omega
 have fin:∀ (listed:Array Bool) (a:Act) (w:World),listed.size=ops.size→Inv As st rs E0 (fun k=>listed.getD k false) a w→(∀ i,i < ops.size→listed.getD i false=true)→Q .normal a w:=by
  intro listed a w hsz hinv hall
  obtain ⟨⟨st',E,rfl,hs,hf,hlen,htm,hlk,hU⟩,_⟩:=hinv
  obtain ⟨hrl,hidx,_,_⟩:=hr.idx
  have hend:=hr.at_.2
  have hl:∀ s ∈ rs,listed.getD s.i false=true∧s.i < 0+ops.toList.length:=by
   intro s hs
   obtain ⟨j,hj⟩:=List.mem_iff_getElem?.1 hs
   have hjl:j < rs.length:=(List.getElem?_eq_some_iff.1 hj).1
   have e:s.i=j:=by have:=hidx j s hj;omega
   rw [hrl] at hjl
   refine ⟨hall _ (by rw [e];simpa using hjl),by omega⟩
  refine hq stn E a (hs.congr ?_ (fun t=>?_) (fun b=>?_) fun b hb=>?_) hf hk
  ·rw [hend.len,hlen]
  ·rw [hend.tmp,htm]
   exact QdX fun s hs hne=>absurd (by rw [(hl s hs).1];simpa using (hl s hs).2) hne
  ·rw [hend.look,hlk]
   exact QdX fun s hs hne=>absurd (by rw [(hl s hs).1];simpa using (hl s hs).2) hne
  ·rcases hU b hb with h1 |⟨s,h1,_,h2,h3⟩
   ·have:=hend.heap;omega
   ·have:=hend.add s h1 (hl s h1).2 (by omega);omega
 have ready:∀ (listed:Array Bool),listed.size=ops.size→Region.ready .any ops listed=[]→∀ i,i < ops.size→listed.getD i false=true:=by
  intro listed hsz hnil i
  induction i using Nat.strongRecOn with
  |_ i ih =>
    intro hi
    cases hl:listed.getD i false with
    |true=>rfl
    |false =>
      exfalso
      have:i ∈ Region.ready .any ops listed:=by
       refine mem_ready.2 ⟨?_,ops[i],Array.getElem?_eq_getElem hi,fun e he hb=>?_⟩
       ·rw [Array.getD_eq_getD_getElem?,Array.getElem?_eq_getElem (by omega)] at hl ⊢
        simpa using hl
       ·have hanc:=hA.in_ i ops[i] (by rw [Array.getElem?_toList];exact Array.getElem?_eq_getElem hi) e he hb
        have:=lt i hi _ hanc
        exact ih _ this (by omega)
      rw [hnil] at this
      cases this
 intro fuel
 induction fuel with
 |zero =>
   intro listed a w hsz hc hinv
   have hall:∀ i,i < ops.size→listed.getD i false=true:=by
    intro i hi
    have h0:listed.toList.count false=0:=by omega
    have h1:=List.count_eq_zero.1 h0
    cases hl:listed.getD i false with
    |true=>rfl
    |false =>
      exfalso
      apply h1
      rw [Array.getD_eq_getD_getElem?,Array.getElem?_eq_getElem (by omega)] at hl
      simp at hl
      rw [← hl]
      simp
   refine ⟨?_,fin listed a w hsz hinv hall⟩
   apply List.eq_nil_iff_forall_not_mem.2
   intro i hi
   obtain ⟨h1,o,h2,_⟩:=mem_ready.1 hi
   have hi':i < ops.size:=(Array.getElem?_eq_some_iff.1 h2).1
   have:=hall i hi'
   rw [Array.getD_eq_getD_getElem?,Array.getElem?_eq_getElem (by omega)] at h1 this
   simp at h1 this
   rw [h1] at this
   cases this
 |succ fuel ih =>
   intro listed a w hsz hc hinv
   refine ⟨fun hnil=>fin listed a w hsz hinv (ready listed hsz hnil),fun i hi=>?_⟩
   obtain ⟨h1,o,h2,h3⟩:=mem_ready.1 hi
   have hi':i < ops.size:=(Array.getElem?_eq_some_iff.1 h2).1
   have h1':listed.getD i false=false:=by
    rw [Array.getD_eq_getD_getElem?,Array.getElem?_eq_getElem (by omega)] at h1 ⊢
    simpa using h1
   refine Inv.step hT hP hr hi' h1' (fun j hj=>?_) hinv fun a' w' hinv'=>ih _ a' w' (by simpa using hsz) ?_ ?_
   ·obtain ⟨e,he,hb,hor⟩:=hA.out i o (by rw [Array.getElem?_toList];exact h2) j hj
    have hd:=h3 e he hb
    rcases hor with rfl |hor
    ·exact hd
    ·exact hinv.closed _ _ hd hor
   ·have:=Qrg (by omega) h1'
    omega
   ·have:(fun k=>(listed.setIfInBounds i true).getD k false)=fun k=>listed.getD k false||Nat.beq k i:=by
     funext k
     rw [Array.getD_eq_getD_getElem?,Array.getD_eq_getD_getElem?,Array.getElem?_setIfInBounds]
     by_cases hk:i=k
     ·subst hk
      rw [if_pos rfl,if_pos (by omega)]
      simp
     ·have:Nat.beq k i=false:=by
       cases hb:Nat.beq k i with
       |false=>rfl
       |true=>exact absurd (Nat.eq_of_beq_eq_true hb).symm hk
      simp [hk,this]
    rw [this]
    exact hinv'
theorem Qrh (hT:Qae P T) (hP:Qe P T) (hm:P.follows .mixedOrders=true) {m id:Nat} {st:St} {K:St→Prop} (h:exD T ops st K):QuF P m id ops st K:=by
 refine .mk fun E0 Q E a hU hs hf hc=>?_
 obtain ⟨As,h,hA⟩:=QEF h
 rw [Qrd] at h
 obtain ⟨rs,stn,hr,hk⟩:=Ql7 ops.toList 0 lits [] [] (by simp) Qi3 (fun s hs=>by cases hs) h
 refine wp_region_any hm ?_
 refine QBL hT hP hA hr hk (fun st' E' a' h1 h2 h3=>hc _ _ _ _ ⟨rfl,h3⟩ h1 h2) ops.size _ a _ (by simp) (by simp [List.count_replicate]) ⟨⟨st,Qvb E,rfl,hs.draw,hf.draw,rfl,fun t=>?_,fun b=>?_,fun b hb=>.inl (hs.U b hb)⟩,fun k j hk=>?_⟩
 ·refine (QbR fun s _ h=>?_).symm
  exfalso
  rw [Array.getD_eq_getD_getElem?,Array.getElem?_replicate] at h
  split at h<;>simp at h
 ·refine (QbR fun s _ h=>?_).symm
  exfalso
  rw [Array.getD_eq_getD_getElem?,Array.getElem?_replicate] at h
  split at h<;>simp at h
 ·exfalso
  simp only [Array.getD_eq_getD_getElem?,Array.getElem?_replicate] at hk
  split at hk<;>simp at hk
end
inductive Qgf where
 |leaf
 |node (k:Nat) (ti:TI) (l r:Qgf)
def Qgf.get (t:Nat):Qgf→Option TI
 |.leaf=>none
 |.node k ti l r=>match Nat.beq t k with
   |true=>some ti
   |false=>match Nat.ble t k with |true=>l.get t |false=>r.get t
def zeros (k:IntKind) (vs:List Value):Bool:=vs.all fun v=>match v with |.int k' m=>decide (k'=k)&&decide (m=0) |_=>false
def crZ:Ty→List Value→Bool
 |.int k,vs=>Nat.beq vs.length 1&&zeros k vs
 |.ints k n,vs=>Nat.beq vs.length n&&zeros k vs
 |.bool,vs=>match vs with | [.bool b]=>!b |_=>false
 |.str,vs=>match vs with | [.string s]=>decide (s=ByteArray.empty) |_=>false
 |.sl _,vs=>match vs with | [.slice none n c]=>Nat.beq n 0&&Nat.beq c 0 |_=>false
 |.pair a b,vs=>crZ a (vs.take a.size)&&crZ b (vs.drop a.size)
def QEH (a b:Value):Bool:=match a,b with
 |.pointer none,.pointer none=>true
 |.nilFunc,.nilFunc=>true
 |.nilIface,.nilIface=>true
 |.map none,.map none=>true
 |.slice none n c,.slice none n' c'=>decide (n=n')&&decide (c=c')
 |.int k n,.int k' n'=>decide (k=k')&&decide (n=n')
 |.bool b,.bool b'=>b == b'
 |.string s,.string s'=>decide (s=s')
 |_,_=>false
def irZ:List QD→List Value→Bool
 | [],vs=>vs.isEmpty
 |c :: cs,vs=>match c with
   |.imm a=>(match vs with |v :: vs=>QEH a v&&irZ cs vs | []=>false)
   |.run k n l=>Nat.beq (vs.take n).length n&&zeros k (vs.take n)&&decide (l=List.replicate n 0)&&irZ cs (vs.drop n)
   |.ro t l=>(match l,vs with | [],.slice none n c :: vs=>Nat.beq n 0&&Nat.beq c 0&&irZ cs vs |_,_=>false)
   |_=>false
def QdB (P:Program):List (TypeId × Nat)→List Field→Bool
 | [],[]=>true
 |(u,o) :: fs,f :: F=>Nat.beq f.type u&&Nat.beq f.offset o&&(P.info? f.type).isSome&&QdB P fs F
 |_,_=>false
def Qri (P:Program) (t:TypeId) (d:TD):Bool:=match d,P.underlying t with
 |.int k,some (.int k')=>decide (k'=k)
 |.bool,some .bool=>true
 |.str,some .string=>true
 |.slice e,some (.slice e')=>Nat.beq e' e
 |.struct fs,some (.struct F)=>QdB P fs F.toList
 |.array n e,some (.array n' e')=>Nat.beq n' n&&Nat.beq e' e
 |.ptr e,some (.pointer e')=>Nat.beq e' e
 |.iface,some (.interface _)=>true
 |.map k e,some (.map k' e')=>Nat.beq k' k&&Nat.beq e' e
 |.other,some d=>!QqT d
 |_,_=>false
def QxH (P:Program) (t:TypeId) (ti:TI):Bool:=match ti.cmp with |true=>QuP P ti.ety t |false=>true
def QxI:Value→Bool
 |.agg _=>false
 |_=>true
theorem Qrj {z:Value} (h:QxI z=true):z.cells.toList=[z]:=by cases z<;>first |rfl |cases h
def Qzl (P:Program) (t:TypeId) (ti:TI):Bool:=QxH P t ti&&(Qri P t ti.desc&&match P.info? t with
 |none=>false
 |some i=>match i.zero with
   |none=>false
   |some z=>Nat.beq i.size ti.size&&Nat.beq i.bytes ti.bytes&&irZ ti.zero z.cells.toList&&Nat.beq z.cells.size ti.size&&(ti.isAgg||QxI z) &&
     match ti.ety with
     |none=>true
     |some u=>Nat.beq u.size ti.size&&crZ u z.cells.toList)
def Qes (P:Program):Qgf→Bool
 |.leaf=>true
 |.node k ti l r=>Qzl P k ti&&Qes P l&&Qes P r
theorem Qgl {k:IntKind}:∀ {vs:List Value},zeros k vs=true→vs=(List.replicate vs.length (0:Int)).map (.int k)
 | [],_=>rfl
 |v :: vs,h=>by
   simp only [zeros,List.all_cons,Bool.and_eq_true] at h
   obtain ⟨h1,h2⟩:=h
   have:=Qgl (vs:=vs) h2
   cases v with
   |int k' m =>
     simp only [Bool.and_eq_true,decide_eq_true_eq] at h1
     obtain ⟨rfl,rfl⟩:=h1
     simp only [List.length_cons,List.replicate_succ,List.map_cons]
     rw [← this]
   |_=>simp at h1
theorem Qrk {w:World} {S:Nat→Prop}:∀ {u:Ty} {vs:List Value},crZ u vs=true→CR w S u (dflt u) vs
 |.int k,vs,h=>by
   simp only [crZ,Bool.and_eq_true] at h
   have h1:=Nat.eq_of_beq_eq_true h.1
   have h2:=Qgl h.2
   rw [h1] at h2
   show vs=[.int k 0]
   simpa using h2
 |.ints k n,vs,h=>by
   simp only [crZ,Bool.and_eq_true] at h
   have h1:=Nat.eq_of_beq_eq_true h.1
   have h2:=Qgl h.2
   rw [h1] at h2
   exact ⟨by simp [dflt],h2⟩
 |.bool,vs,h=>by
   unfold crZ at h
   split at h
   ·simp at h;subst h;rfl
   ·cases h
 |.str,vs,h=>by
   unfold crZ at h
   split at h
   ·simp at h;subst h;rfl
   ·cases h
 |.sl t,vs,h=>by
   unfold crZ at h
   split at h
   ·simp only [Bool.and_eq_true] at h
    have h1:=Nat.eq_of_beq_eq_true h.1
    have h2:=Nat.eq_of_beq_eq_true h.2
    subst h1;subst h2
    exact ⟨_,rfl,none,0,rfl,Nat.le_refl _,fun hne=>absurd rfl hne⟩
   ·cases h
 |.pair a b,vs,h=>by
   simp only [crZ,Bool.and_eq_true] at h
   exact ⟨vs.take a.size,vs.drop a.size,by simp,Qrk h.1,Qrk h.2⟩
theorem Qzm {a b:Value} (h:QEH a b=true):b=a∧a.oneCell'=true:=by
 unfold QEH at h
 split at h<;>(try simp only [Bool.and_eq_true,decide_eq_true_eq,beq_iff_eq] at h)
 ·exact ⟨rfl,rfl⟩
 ·exact ⟨rfl,rfl⟩
 ·exact ⟨rfl,rfl⟩
 ·exact ⟨rfl,rfl⟩
 ·obtain ⟨rfl,rfl⟩:=h;exact ⟨rfl,rfl⟩
 ·obtain ⟨rfl,rfl⟩:=h;exact ⟨rfl,rfl⟩
 ·subst h;exact ⟨rfl,rfl⟩
 ·subst h;exact ⟨rfl,rfl⟩
 ·cases h
theorem Qnz {E:Env}:∀ {cs:List QD} {vs:List Value},irZ cs vs=true→IR E cs vs
 | [],vs,h=>by
   show vs=[]
   simpa [irZ] using h
 |c :: cs,vs,h=>by
   unfold irZ at h
   split at h
   ·split at h
    ·rename_i a v vs
     rw [Bool.and_eq_true] at h
     obtain ⟨h1,h2⟩:=h
     obtain ⟨rfl,h3⟩:=Qzm h1
     exact ⟨[_],_,rfl,⟨rfl,h3⟩,Qnz h2⟩
    ·cases h
   ·rename_i k n l
    simp only [Bool.and_eq_true,decide_eq_true_eq] at h
    obtain ⟨⟨⟨h1,h2⟩,rfl⟩,h4⟩:=h
    have h1:=Nat.eq_of_beq_eq_true h1
    have h2:=Qgl h2
    rw [h1] at h2
    exact ⟨vs.take n,vs.drop n,by simp,⟨by simp,h2⟩,Qnz h4⟩
   ·split at h
    ·simp only [Bool.and_eq_true] at h
     obtain ⟨⟨h1,h2⟩,h3⟩:=h
     have h1:=Nat.eq_of_beq_eq_true h1
     have h2:=Nat.eq_of_beq_eq_true h2
     subst h1;subst h2
     exact ⟨[_],_,rfl,⟨_,rfl,none,0,rfl,Nat.le_refl _,fun hne=>absurd rfl hne⟩,Qnz h3⟩
    ·cases h
   ·cases h
theorem Qf0 {P:Program}:∀ {fs:List (TypeId × Nat)} {F:List Field},QdB P fs F=true →
 (∀ (i:Nat) u o,fs[i]?=some (u,o)→∃ f:Field,F[i]?=some f∧f.type=u∧f.offset=o)∧∀ f ∈ F,∃ i,P.info? f.type=some i
 | [],[],_=>⟨fun i u o h=>by simp at h,fun f h=>by cases h⟩
 |(u,o) :: fs,f :: F,h=>by
   simp only [QdB,Bool.and_eq_true] at h
   obtain ⟨⟨⟨h1,h2⟩,h3⟩,h4⟩:=h
   obtain ⟨h5,h6⟩:=Qf0 h4
   refine ⟨fun i u' o' hi=>?_,fun f' hf=>?_⟩
   ·cases i with
    |zero =>
      simp at hi
      obtain ⟨rfl,rfl⟩:=hi
      exact ⟨f,rfl,Nat.eq_of_beq_eq_true h1,Nat.eq_of_beq_eq_true h2⟩
    |succ i=>exact h5 i u' o' (by simpa using hi)
   ·rcases List.mem_cons.1 hf with rfl |hf
    ·exact Option.isSome_iff_exists.1 h3
    ·exact h6 f' hf
 | [],_ :: _,h=>by cases h
 |_ :: _,[],h=>by simp [QdB] at h
theorem Qvc {P:Program} {t:TypeId} {ti:TI} (h:Qzl P t ti=true):Qo6 P t ti:=by
 unfold Qzl at h
 rw [Bool.and_eq_true,Bool.and_eq_true] at h
 obtain ⟨h0,h1,h2⟩:=h
 refine ⟨?_,?_,fun hc=>by unfold QxH at h0;rw [hc] at h0;exact h0,fun hag i z hi hz=>?_⟩
 ·unfold Qri at h1
  split at h1<;>rename_i hd hu<;>simp only [QY,hd]
  ·simp only [decide_eq_true_eq] at h1;subst h1;exact hu
  ·exact hu
  ·exact hu
  ·have:=Nat.eq_of_beq_eq_true h1;subst this;exact hu
  ·obtain ⟨h3,h4⟩:=Qf0 h1
   refine ⟨_,hu,fun i u o hi=>?_,fun f hf=>h4 f (by simpa using hf)⟩
   obtain ⟨f,h5,h6⟩:=h3 i u o hi
   exact ⟨f,by rw [← Array.getElem?_toList];exact h5,h6⟩
  ·rw [Bool.and_eq_true] at h1
   have e1:=Nat.eq_of_beq_eq_true h1.1
   have e2:=Nat.eq_of_beq_eq_true h1.2
   subst e1;subst e2;exact hu
  ·have:=Nat.eq_of_beq_eq_true h1;subst this;exact hu
  ·exact ⟨_,hu⟩
  ·rw [Bool.and_eq_true] at h1
   have e1:=Nat.eq_of_beq_eq_true h1.1
   have e2:=Nat.eq_of_beq_eq_true h1.2
   subst e1;subst e2;exact hu
  ·exact ⟨_,hu,by simpa using h1⟩
  ·cases h1
 ·split at h2
  ·cases h2
  ·rename_i i hi
   split at h2
   ·cases h2
   ·rename_i z hz
    simp only [Bool.and_eq_true] at h2
    obtain ⟨⟨⟨⟨⟨e1,e2⟩,e3⟩,e4⟩,_⟩,e5⟩:=h2
    refine ⟨i,z,hi,Nat.eq_of_beq_eq_true e1,Nat.eq_of_beq_eq_true e2,hz,fun E=>Qnz e3,Nat.eq_of_beq_eq_true e4,fun u hu=>?_⟩
    rw [hu] at e5
    simp only [Bool.and_eq_true] at e5
    exact ⟨Nat.eq_of_beq_eq_true e5.1,fun w S=>Qrk e5.2⟩
 ·rw [hi] at h2
  simp only [hz,Bool.and_eq_true,Bool.or_eq_true] at h2
  rcases h2.1.2 with h |h
  ·rw [hag] at h;cases h
  ·exact Qrj h
theorem Qfz {P:Program}:∀ {T:Qgf},Qes P T=true→∀ t ti,T.get t=some ti→Qo6 P t ti
 |.leaf,_,t,ti,h=>by cases h
 |.node k ti l r,h,t,ti',hg=>by
   simp only [Qes,Bool.and_eq_true] at h
   unfold Qgf.get at hg
   split at hg
   ·rename_i hb
    injection hg with hg
    subst hg
    rw [Nat.eq_of_beq_eq_true hb]
    exact Qvc h.1.1
   ·split at hg
    ·exact Qfz h.1.2 t ti' hg
    ·exact Qfz h.2 t ti' hg
def QEd (f:Nat):List (Nat × Qcm)→Option Qcm
 | []=>none
 |(g,s) :: r=>match Nat.beq f g with |true=>some s |false=>QEd f r
def tab (T:Qgf) (fs:List (Nat × Qcm)):Tab:={ ty:=fun t=>T.get t,fn:=fun f=>QEd f fs,meth:=fun _ _=>none }
theorem Qky {P:Program} {T:Qgf} {fs:List (Nat × Qcm)} (h:Qes P T=true):Qae P (tab T fs) :=
 ⟨Qfz h,fun t name f hm=>by cases hm⟩
def Qi (P:Program) (f:Nat) (s:Qcm):Prop:=CSound P f s∧Enters P f
theorem Qc {P:Program} {T:Qgf}:Qe P (tab T []):=fun f s h=>by cases h
structure QIF where
 spec:Qcm
def Qcm.eating (s:Qcm):QIF:=⟨{ s with eat:=true }⟩
theorem Qi.eat {P:Program} {f:Nat} {s:Qcm} (h:Qi P f s):Qi P f s.eating.spec:=⟨h.1,h.2⟩
theorem Qa {P:Program} {T:Qgf} {fs:List (Nat × Qcm)} {g:Nat} {s:Qcm} (h:Qi P g s) (hr:Qe P (tab T fs)):Qe P (tab T ((g,s) :: fs)):=by
 intro f s' hs
 have hs:QEd f ((g,s) :: fs)=some s':=hs
 unfold QEd at hs
 split at hs
 ·rename_i hb
  injection hs with hs
  subst hs
  rw [Nat.eq_of_beq_eq_true hb]
  exact h
 ·exact hr f s' hs
inductive Go (q:Prop):Prop where
 |mk:q→Go q
theorem Go.out {q:Prop} (h:Go q):q:=by cases h;assumption
theorem Qm.go {A X B Y:Prop} (h1:A→Go X) (h2:B→Go Y):Qm A X B Y:=⟨fun h=>(h1 h).out,fun h=>(h2 h).out⟩
theorem Ql.go {p q:Prop} (h1:p) (h2:Go q):Ql p q:=⟨h1,h2.out⟩
theorem Br.go {b:Bool} {x y:Prop} (h1:b=true→Go x) (h2:b=false→Go y):Br b x y:=Br.mk (fun h=>(h1 h).out) (fun h=>(h2 h).out)
theorem Br.dec {p:Prop} [Decidable p] {x y:Prop} (h1:p→Go x) (h2:¬ p→Go y):Br (decide p) x y :=
 Br.mk (fun h=>(h1 (of_decide_eq_true h)).out) (fun h=>(h2 (of_decide_eq_false h)).out)
def QEe:List AV→(List AV→Prop)→Prop
 | [],k=>k []
 |c :: cs,k=>fAV c fun c=>QEe cs fun cs=>k (c :: cs)
def QEf:List (Option Blk)→(List (Option Blk)→Prop)→Prop
 | [],k=>k []
 |c :: cs,k=>fOB c fun c=>QEf cs fun cs=>k (c :: cs)
def Qie (s:St) (k:St→Prop):Prop:=QEe s.tmps fun t=>QEf s.heap fun h=>k { tmps:=t,heap:=h }
theorem Qrl:∀ (l:List AV) (k:List AV→Prop),QEe l k=k l
 | [],k=>rfl
 |n :: ns,k=>by unfold QEe;rw [QxC,Qrl ns]
theorem Qrm:∀ (l:List (Option Blk)) (k:List (Option Blk)→Prop),QEf l k=k l
 | [],k=>rfl
 |n :: ns,k=>by unfold QEf;rw [QxD,Qrm ns]
theorem Qrn (s:St) (k:St→Prop):Qie s k=k s:=by unfold Qie;rw [Qrl,Qrm]
def stepM (T:Tab) (ops:Array Oper) (As:List (List Bool)) (efs:List W1) (o:Oper) (i:Nat) (own:List (Nat × Nat × Nat)) (st:St) (K:List (Nat × Nat × Nat)→St→Prop):Prop :=
    match Qva (QbY As i) i&&Ql4 i o ops.toList As (QbY As i) with
    |false=>False
    |true=>fWs (Qpp i efs As (QbY As i) lits) fun inc =>
      match Qan ops o with
      |none=>False
      |some none=>Qam lits st.heap st.heap.length fun nm =>
        doM T o (fun t=>QbF i t ops.toList As (QbY As i) lits) (fun b=>Qf7 inc (QbY As i) b own) (QqC efs i) nm st fun st' add=>K (QeT own i nm add) st'
      |some (some (d,want))=>match QgS st (fun t=>QbF i t ops.toList As (QbY As i) lits) (.tmp d) with
        |.one (.c (.imm (.bool b)))=>Br b
          (fSt (st.put (some d) (.cell (bv true))) fun st=>match want with
            |true=>Qam lits st.heap st.heap.length fun nm =>
              doM T o (fun t=>QbF i t ops.toList As (QbY As i) lits) (fun b=>Qf7 inc (QbY As i) b own) (QqC efs i) nm st fun st' add=>K (QeT own i nm add) st'
            |false=>fSt (st.put o.dst (.tup [])) fun st=>K own st)
          (fSt (st.put (some d) (.cell (bv false))) fun st=>match want with
            |false=>Qam lits st.heap st.heap.length fun nm =>
              doM T o (fun t=>QbF i t ops.toList As (QbY As i) lits) (fun b=>Qf7 inc (QbY As i) b own) (QqC efs i) nm st fun st' add=>K (QeT own i nm add) st'
            |true=>fSt (st.put o.dst (.tup [])) fun st=>K own st)
        |.tup []=>fSt (st.put o.dst (.tup [])) fun st=>K own st
        |_=>False
def QEg (T:Tab) (ops:Array Oper) (As:List (List Bool)) (efs:List W1) (l:List Oper):List Nat→List (Nat × Nat × Nat)→St→(St→Prop)→Prop :=
 List.rec (motive:=fun _=>List Nat→List (Nat × Nat × Nat)→St→(St→Prop)→Prop) (fun _ _ st K=>K st) (fun o _ ih is own st K=>match is with | []=>False |i :: is=>stepM T ops As efs o i own st fun own' st'=>ih is own' st' K) l
theorem Qro (T:Tab) (ops:Array Oper) (As:List (List Bool)) (efs:List W1):∀ (l:List Oper) (is:List Nat) (own:List (Nat × Nat × Nat)) (st:St) (K:St→Prop),QEg T ops As efs l is own st K=exM T ops As efs l is own st K
 | [],is,own,st,K=>by cases is<;>rfl
 |o :: r,[],own,st,K=>rfl
 |o :: r,i :: is,own,st,K=>by
   show stepM T ops As efs o i own st (fun own' st'=>QEg T ops As efs r is own' st' K)=exM T ops As efs (o :: r) (i :: is) own st K
   have e:(fun own' st'=>QEg T ops As efs r is own' st' K)=fun own' st'=>exM T ops As efs r is own' st' K:=funext fun own'=>funext fun st'=>Qro T ops As efs r is own' st' K
   rw [e]
   rfl
def QEI (T:Tab) (ops:Array Oper) (st:St) (K:St→Prop):Prop :=
 Qc8 ops.toList [] fun As=>fWs (effs T st [] ops.toList) fun efs=>QEg T ops As efs ops.toList lits [] st K
theorem Qzn (T:Tab) (ops:Array Oper) (st:St) (K:St→Prop):QEI T ops st K=exD T ops st K:=by
 unfold QEI exD
 simp only [Qro]
def QBM (T:Tab) (ops:Array Oper) (o:Oper) (st:St) (K:St→Prop):Prop:=match Qan ops o with
    |none=>False
    |some none=>Qam lits st.heap st.heap.length fun nm=>QuO T o nm st K
    |some (some (d,want))=>match st.tmp d with
      |.one (.c (.imm (.bool b)))=>Br b
         (match want with
           |true=>fSt (st.put (some d) (.cell (bv true))) fun st=>Qam lits st.heap st.heap.length fun nm=>QuO T o nm st K
           |false=>fSt ((st.put (some d) (.cell (bv true))).put o.dst (.tup [])) K)
         (match want with
           |false=>fSt (st.put (some d) (.cell (bv false))) fun st=>Qam lits st.heap st.heap.length fun nm=>QuO T o nm st K
           |true=>fSt ((st.put (some d) (.cell (bv false))).put o.dst (.tup [])) K)
      |.tup []=>fSt (st.put o.dst (.tup [])) K
      |_=>False
def QnA (T:Tab) (ops:Array Oper) (l:List Oper):St→(St→Prop)→Prop :=
 List.rec (motive:=fun _=>St→(St→Prop)→Prop) (fun st K=>K st) (fun o _ ih st K=>QBM T ops o st fun st'=>ih st' K) l
theorem Qkz (T:Tab) (ops:Array Oper):∀ (l:List Oper) (st:St) (K:St→Prop),QnA T ops l st K=Qfr T ops l st K
 | [],st,K=>rfl
 |o :: r,st,K=>by
   show QBM T ops o st (fun st'=>QnA T ops r st' K)=Qfr T ops (o :: r) st K
   have e:(fun st'=>QnA T ops r st' K)=fun st'=>Qfr T ops r st' K:=funext fun st'=>Qkz T ops r st' K
   rw [e]
   rfl
def QEJ (iy:St→Cont→Prop) (K:Cont):Cont:=fun e st'=>match e with
 |.normal=>iy st' K
 |.exit i=>K (.exit i) st'
 |.ret=>K .ret st'
 |_=>False
def QxJ (id:Nat) (K:Cont):Cont:=fun e st'=>match e with
 |.normal=>K .normal st'
 |.exit i=>(match Nat.beq i id with |true=>K .normal st' |false=>K (.exit i) st')
 |.ret=>K .ret st'
 |_=>False
def Qzo (c:Operand) (ix iy:St→Cont→Prop) (st:St) (K:Cont):Prop:=match st.eval c with
 |.one (.c (.imm (.bool b)))=>Br b (fSt (QBu st c true) fun st=>ix st K) (fSt (QBu st c false) fun st=>iy st K)
 |_=>False
def Qrp (P:Program) (T:Tab) (m:Nat) (id:Nat) (ops:Array Oper) (d:Bool) (st:St) (K:Cont):Prop:=match d with
 |false=>QnA T ops ops.toList st fun st'=>K .normal st'
 |true=>QuF P m id ops st fun st'=>K .normal st'
def exR (P:Program) (T:Tab) (m:Nat) (c:Code):St→Cont→Prop :=
 Code.rec (motive:=fun _=>St→Cont→Prop) (fun st K=>K .normal st) (fun id ops d st K=>Qrp P T m id ops d st K) (fun _ _ ix iy st K=>ix st (QEJ iy K)) (fun c _ _ ix iy st K=>Qzo c ix iy st K)
  (fun id _ ic st K=>ic st (QxJ id K)) (fun c _ st K=>QmW P m c st K) (fun _ _ _ _ _ _ _ _=>False) (fun i st K=>K (.exit i) st) (fun _ _ _ _=>False) (fun _ st K=>K .normal st) (fun _ _ _=>False)
  (fun st K=>K .ret st) (fun _ _ _=>False) c
theorem QxK (P:Program) (T:Tab) (m:Nat):∀ (c:Code) (st:St) (K:Cont),exR P T m c st K=ex P T m c st K:=by
 intro c
 induction c with
 |seq x y ihx ihy =>
   intro st K
   show exR P T m x st (QEJ (exR P T m y) K)=ex P T m x st _
   rw [ihx]
   congr 1
   funext e st'
   cases e<;>simp only [QEJ,ihy]
 |cond c x y ihx ihy =>
   intro st K
   show Qzo c (exR P T m x) (exR P T m y) st K=ex P T m (.cond c x y) st K
   have e1:(fun st=>exR P T m x st K)=fun st=>ex P T m x st K:=funext fun st=>ihx st K
   have e2:(fun st=>exR P T m y st K)=fun st=>ex P T m y st K:=funext fun st=>ihy st K
   unfold Qzo
   rw [e1,e2]
   rfl
 |block id c ih =>
   intro st K
   show exR P T m c st (QxJ id K)=ex P T m (.block id c) st K
   rw [ih]
   rfl
 |region id ops d =>
   intro st K
   show Qrp P T m id ops d st K=ex P T m (.region id ops d) st K
   cases d with
   |false=>exact Qkz T ops _ _ _
   |true=>rfl
 |_=>intro st K;rfl
def QkA (P:Program) (T:Tab) (fn:Func) (args:List V1) (bl:List Blk) (r:AV) (upd:List (Option Blk)) (fresh:List Blk):Prop:=match fn.body with
 |some c=>QBt args fun args=>Qo9 bl fun bl=>fSt (st0 fn.ntmps args bl) fun st=>exR P T bl.length c st (QED P T bl.length fn r upd fresh)
 |none=>False
theorem Qg0 (P:Program) (T:Tab) (fn:Func) (args:List V1) (bl:List Blk) (r:AV) (upd:List (Option Blk)) (fresh:List Blk):QkA P T fn args bl r upd fresh=Qic P T fn args bl r upd fresh:=by
 unfold QkA Qic
 cases fn.body with
 |some c=>simp only [QxK]
 |none=>rfl
section
variable {P:Program} {T:Tab}
theorem Ql8 (hT:Qae P T) (hP:Qe P T) {m:Nat} {c:Code} {st:St} {K:Cont} (h:Go (Qie st fun st=>exR P T m c st K)):Does P m c st K:=by
 have:=h.out
 rw [Qrn,QxK] at this
 exact Qgj hT hP c this
theorem Qd (hT:Qae P T) (hP:Qe P T) (hm:P.follows .mixedOrders=true) {m id:Nat} {st:St} {ops:Array Oper} {K:St→Prop} (h:Go (QEI T ops st K)):QuF P m id ops st K:=Qrh hT hP hm (by have:=h.out;rwa [Qzn] at this)
theorem Qb (hT:Qae P T) (hP:Qe P T) {m n:Nat} {c:Code} {st:St} {K:Cont} (h:Go (Qie st fun st=>exR P T m c st fun e st'=>match e with |.normal=>QiB P m c K n st' |e=>K e st')):QiB P m c K (n+1) st:=QBH (Ql8 hT hP h)
theorem Qay (hT:Qae P T) (hP:Qe P T) {X:Type} {m:Nat} {c:Code} {st:St} {K:Cont} (S:X→St) (I:X→Prop) (μ:X→Nat) (x0:X) (h0:Le m st (S x0)) (hI:I x0)
 (h:∀ x,I x→Go (Qie (S x) fun st=>exR P T m c st fun e st'=>match e with |.normal=>∃ x',I x'∧μ x' < μ x∧Le m st' (S x') |e=>K e st')):QmW P m c st K :=
 Qkm S I μ x0 h0 hI fun x hx=>Ql8 hT hP (h x hx)
theorem Qk.good {f:FuncId} {fn:Func} (hT:Qae P T) (hP:Qe P T) (hf:P.funcs[f]?=some fn) (hn:(fn.name == "runtime.NumGoroutine")=false) (s:Qk) (hb:fn.body.isSome=true)
 (h:Qc7 s.gs fun xs=>(∀ q,(s.out xs).1=some q→q)→Go (QkA P T fn (QaK s.gs xs) [] (s.out xs).2.1 [] (s.out xs).2.2)):Qi P f s.spec:=by
 refine Qk.sound hT hP hf hn s ?_ hb
 have:∀ (gs:List Sig) (p q:Args gs→Prop),(∀ x,p x→q x)→Qc7 gs p→Qc7 gs q:=by
  intro gs
  induction gs with
  |nil=>intro p q h h1;exact h () h1
  |cons g gs ih=>intro p q h h1 a;exact ih _ _ (fun r=>h (a,r)) (h1 a)
 exact this _ _ _ (fun x hx hp=>by have:=(hx hp).out;rwa [Qg0] at this) h
end
theorem Le.trans {m:Nat} {a b c:St} (h1:Le m a b) (h2:Le m b c):Le m a c:=by
 intro E0 E ac hm hs hf
 obtain ⟨E1,e1,s1,f1⟩:=h1 E0 E ac hm hs hf
 obtain ⟨E2,e2,s2,f2⟩:=h2 E0 E1 ac hm s1 f1
 exact ⟨E2,e2.trans e1,s2,f2⟩
theorem Le.nil {m:Nat} {st:St} (i:Nat) (t:Ty) (h:st.tmps[i]?=some (.imm (.slice none 0 0))):Le m st { tmps:=st.tmps.set i (.cell (.own st.heap.length)),heap:=QaB st.heap st.heap.length (some (.arr t [])) }:=by
 intro E0 E a hm hs hf
 have hU:¬ E.U st.heap.length:=fun hu=>by have:=hs.U _ hu;omega
 have hstep:QaI E { pre:=none,val:=.cell (.own st.heap.length),add:=[.arr t []],set:=[] } st.heap.length (QbK E [] st.heap.length t):=QaI.nil (us:=[]) hs.ok rfl rfl hU
 obtain ⟨v,hv1,hv2⟩:=hs.tmp i _ h
 obtain ⟨e,_⟩:=hv2
 injection e with e
 subst e
 have hsim:=hs.step (dst:=some i) hstep (QeR E [] st.heap.length t)
 refine ⟨QbK E [] st.heap.length t,rfl,?_,hf.step hstep⟩
 have ha:a.put (some i) (.slice none 0 0)=a:=by
  obtain ⟨tm,df⟩:=a
  simp only [Act.put,Act.mk.injEq,and_true]
  apply Array.ext_getElem?
  intro j
  rw [Array.getElem?_setIfInBounds]
  by_cases hj:i=j
  ·subst hj
   have hv1:tm[i]?=some (.slice none 0 0):=hv1
   rw [hv1]
   simp
   exact (Array.getElem?_eq_some_iff.1 hv1).1
  ·simp [hj]
 rw [ha] at hsim
 exact hsim
theorem Q9 (x y:Int):imax x y=max x y:=by unfold imax;omega
theorem QbZ (x y:Int):imin x y=min x y:=by unfold imin;omega
theorem Qg {k:IntKind} {n m:Int} (h:n=m):AV.one (V1.c (.imm (.int k n)))=AV.one (V1.c (.imm (.int k m))):=by rw [h]
theorem Qo {n m:Bool} (h:n=m):AV.one (V1.c (.imm (.bool n)))=AV.one (V1.c (.imm (.bool m))):=by rw [h]
theorem QhO {t:Ty} {n m:List (Den t)} (h:n=m):AV.one (V1.c (.ro t n))=AV.one (V1.c (.ro t m)):=by rw [h]
@[reducible] def E1 (l:List AV):List AV:=.dead :: l
@[reducible] def E2 (l:List AV):List AV:=.dead :: .dead :: l
@[reducible] def E3 (l:List AV):List AV:=.dead :: .dead :: .dead :: l
@[reducible] def E5 (l:List AV):List AV:=.dead :: .dead :: .dead :: .dead :: .dead :: l
@[reducible] def E10 (l:List AV):List AV:=.dead :: .dead :: .dead :: .dead :: .dead :: .dead :: .dead :: .dead :: .dead :: .dead :: l
@[reducible] def E20 (l:List AV):List AV:=.dead :: .dead :: .dead :: .dead :: .dead :: .dead :: .dead :: .dead :: .dead :: .dead :: .dead :: .dead :: .dead :: .dead :: .dead :: .dead :: .dead :: .dead :: .dead :: .dead :: l
@[reducible] def E40 (l:List AV):List AV:=.dead :: .dead :: .dead :: .dead :: .dead :: .dead :: .dead :: .dead :: .dead :: .dead :: .dead :: .dead :: .dead :: .dead :: .dead :: .dead :: .dead :: .dead :: .dead :: .dead :: .dead :: .dead :: .dead :: .dead :: .dead :: .dead :: .dead :: .dead :: .dead :: .dead :: .dead :: .dead :: .dead :: .dead :: .dead :: .dead :: .dead :: .dead :: .dead :: .dead :: l
theorem R {α:Sort u} {a:α}:a=a:=rfl
theorem tabs {P:Program} {T:Qgf} {fs:List (Nat × Qcm)} (hP:Qe P (tab T fs)) (h:Qes P T=true):Qae P (tab T fs):=Qky h
end Go.Fw

