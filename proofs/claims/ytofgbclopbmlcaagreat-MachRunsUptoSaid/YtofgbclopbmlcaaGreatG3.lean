/- Part 3 of the proof: Fw16 Fw17 Fw18 Fw36 Fw19 Fw20. No statement is handed in here; conditions: none. -/
import Derived.Test.YtofgbclopbmlcaaGreatG2
import Derived.MapKept
import Derived.Laws.BytesString
import Derived.Laws.IdiomStrings
import Derived.WideKeyRuns
import Derived.Lib.SlicesS
import Derived.Laws.Cover3
namespace Go.Fw
set_option linter.unusedVariables false
set_option linter.unusedSimpArgs false
section
variable {P:Program} {T:Tab}
def QgI (E:Env):QuD:={ w0:=E.w,own0:=fun g=>∃ b x,E.H b=some x∧E.ρ b=some g,S0:=E.S }
theorem Qh7 {E:Env}:Qcd (QgI E) E :=
 ⟨rfl,rfl,rfl,Nat.le_refl _,fun _ _ _=>rfl,fun b x g hx hr=>.inr ⟨b,x,hx,hr⟩,fun g hg=>.inl hg⟩
structure Qj1 (E0:Env) (m:Nat) (r:AV) (upd:List (Option Blk)) (fresh:List Blk) (v:Value) (E':Env):Prop where
 val:AVR E' r v
 ok:Qt E'
 H:∀ b,E'.H b=if b < m then (upd[b]?).getD none else fresh[b-m]?
 U:∀ b,E'.U b ↔ b < m+fresh.length
 ext:Ext E0 E'
 fr:Qcd (QgI E0) E'
def CSound (P:Program) (f:FuncId) (s:Qcm):Prop :=
 ∀ (E0:Env) (vs:Array Value) (args:List V1) (bl:List Blk) (p:Option Prop) (r:AV) (upd:List (Option Blk)) (fresh:List Blk),
   (∀ b,E0.H b=bl[b]?)→(∀ b,E0.U b ↔ b < bl.length)→Qt E0→VsR E0 args vs.toList→s.run args bl=some (p,r,upd,fresh)→(∀ q,p=some q→q) →
   Calls P f vs E0.w fun e w'=>∃ v E',e=.returned v∧E'.w=w'∧Qj1 E0 bl.length r upd fresh v E'
def Enters (P:Program) (f:FuncId):Prop:=∃ fn,P.funcs[f]?=some fn∧(fn.name == "runtime.NumGoroutine")=false∧fn.body.isSome=true
def Qe (P:Program) (T:Tab):Prop:=∀ f s,T.fn f=some s→CSound P f s∧Enters P f
theorem Qco (f:Nat→Nat) (b:Blk):shape (b.rn f)=shape b:=by
 cases b with
 |arr _ _=>rfl
 |var cs =>
   simp only [Blk.rn,shape,List.map_map]
   congr 1
   apply List.map_congr_left
   intro c _
   cases c<;>rfl
 |mp _ _ _ _=>rfl
theorem QaC.rn {E E':Env} {f:Nat→Nat} (hw:E'.w=E.w) :
 {c:QD}→{vs:List Value}→((∀ g,E.S g→E'.S g)∨c.isRo=false)→(∀ i ∈ c.names,E.U i→E'.U (f i)∧∀ x,E'.H (f i)=some x→∃ x',E.H i=some x'∧shape x=shape x'∧E'.ρ (f i)=E.ρ i)→QaC E c vs→QaC E' (c.rn f) vs
 |.imm _,_,_,_,hc=>hc
 |.run _ _ _,_,_,_,hc=>hc
 |.ro t l,_,hS0,_,⟨v,e,hs⟩=>have hS:=hS0.resolve_right (by simp [QD.isRo]);⟨v,e,hs.mono (fun g hg=>⟨hS g hg,by rw [hw]⟩) fun _ _ hx=>hx.mono fun g hg=>⟨hS g hg,by rw [hw]⟩⟩
 |.rptr t l i j,_,hS0,_,⟨hi,ad,us,e,hs,hl,hc⟩=>have hS:=hS0.resolve_right (by simp [QD.isRo]);⟨hi,ad,us,e,hS _ hs,hl.mono fun _ _ hx=>hx.mono fun g hg=>⟨hS g hg,by rw [hw]⟩,fun k u hu=>by rw [hw];exact hc k u hu⟩
 |.own b,_,_,h0,⟨v,e,hu,hh⟩=>by
   have h:=h0 b (by simp [QD.names])
   refine ⟨v,e,(h hu).1,fun t l hb=>?_⟩
   obtain ⟨x',hx,hsh,hr⟩:=(h hu).2 _ hb
   obtain ⟨l',rfl,hl⟩:=QcE hsh
   rcases hh t l' hx with ⟨h1,h2⟩ |⟨g,cs,el,cap,h1,h2,h3,h4,h5⟩
   ·exact .inl ⟨hr.trans h1,h2⟩
   ·exact .inr ⟨g,cs,el,cap,hr.trans h1,by rw [hw];exact h2,by rw [h3,hl],by omega,h5⟩
 |.sub b off len,_,_,h0,⟨v,e,hu,hh⟩=>by
   have h:=h0 b (by simp [QD.names])
   refine ⟨v,e,(h hu).1,fun t l hb=>?_⟩
   obtain ⟨x',hx,hsh,hr⟩:=(h hu).2 _ hb
   obtain ⟨l',rfl,hl⟩:=QcE hsh
   obtain ⟨h0,h1⟩:=hh t l' hx
   refine ⟨by omega,?_⟩
   rcases h1 with ⟨h1,h2,h3⟩ |⟨g,ad,cap,h1,h2⟩
   ·exact .inl ⟨hr.trans h1,h2,h3⟩
   ·exact .inr ⟨g,ad,cap,hr.trans h1,h2⟩
 |.srun b j,_,_,h0,⟨v,e,hu,hh⟩=>by
   have h:=h0 b (by simp [QD.names])
   refine ⟨v,e,(h hu).1,fun cs c hb hi=>?_⟩
   obtain ⟨x',hx,hsh,hr⟩:=(h hu).2 _ hb
   obtain ⟨cs',rfl,hm⟩:=QaD hsh
   obtain ⟨c',hc',hs'⟩:=Qem hm hi
   obtain ⟨g,cap,h1,h2,h3⟩:=hh cs' c' hx hc'
   exact ⟨g,cap,hr.trans h1,by rw [h2,hs'],by omega⟩
 |.svar b j n,_,_,h0,⟨v,e,hu,hh⟩=>by
   have h:=h0 b (by simp [QD.names])
   refine ⟨v,e,(h hu).1,fun cs hb=>?_⟩
   obtain ⟨x',hx,hsh,hr⟩:=(h hu).2 _ hb
   obtain ⟨cs',rfl,hm⟩:=QaD hsh
   obtain ⟨g,cap,h1,h2,h3⟩:=hh cs' hx
   exact ⟨g,cap,hr.trans h1,h2,h3⟩
 |.ptr b j,_,_,h0,⟨v,e,hu,hh⟩=>by
   have h:=h0 b (by simp [QD.names])
   refine ⟨v,e,(h hu).1,fun cs hb=>?_⟩
   obtain ⟨x',hx,hsh,hr⟩:=(h hu).2 _ hb
   obtain ⟨cs',rfl,hm⟩:=QaD hsh
   obtain ⟨g,h1,h2⟩:=hh cs' hx
   exact ⟨g,hr.trans h1,h2⟩
 |.pel b i j,_,_,h0,⟨v,e,hu,hh⟩=>by
   have h:=h0 b (by simp [QD.names])
   refine ⟨v,e,(h hu).1,fun t l hb hi=>?_⟩
   obtain ⟨x',hx,hsh,hr⟩:=(h hu).2 _ hb
   obtain ⟨l',rfl,hl⟩:=QcE hsh
   obtain ⟨g,h1,h2⟩:=hh t l' hx (by omega)
   exact ⟨g,hr.trans h1,h2⟩
 |.pidx b j i,_,_,h0,⟨v,e,hu,hh⟩=>by
   have h:=h0 b (by simp [QD.names])
   refine ⟨v,e,(h hu).1,fun cs hb=>?_⟩
   obtain ⟨x',hx,hsh,hr⟩:=(h hu).2 _ hb
   obtain ⟨cs',rfl,hm⟩:=QaD hsh
   obtain ⟨g,h1,h2⟩:=hh cs' hx
   exact ⟨g,hr.trans h1,h2⟩
 |.fn g bs,_,_,h0,⟨caps,e,hs,hh⟩=>by
   refine ⟨caps,e,by simpa using hs,fun i b hb=>?_⟩
   rw [List.getElem?_map] at hb
   cases hbi:bs[i]? with
   |none=>rw [hbi] at hb;cases hb
   |some b0 =>
     rw [hbi] at hb
     injection hb with hb
     subst hb
     obtain ⟨u,hu1,hu2,h1,h2⟩:=hh i b0 hbi
     have h:=h0 b0 (by simp only [QD.names];exact List.mem_of_getElem? hbi)
     refine ⟨u,hu1,hu2,(h h1).1,fun cs hx'=>?_⟩
     obtain ⟨x',hx,hsh,hr⟩:=(h h1).2 _ hx'
     obtain ⟨cs',rfl,hm⟩:=QaD hsh
     obtain ⟨g,h3,h4⟩:=h2 cs' hx
     exact ⟨g,hr.trans h3,h4⟩
 |.ifc t b,_,_,h0,⟨v,e,hu,hh⟩=>by
   have h:=h0 b (by simp [QD.names])
   refine ⟨v,e,(h hu).1,fun cs hb=>?_⟩
   obtain ⟨x',hx,hsh,hr⟩:=(h hu).2 _ hb
   obtain ⟨cs',rfl,hm⟩:=QaD hsh
   obtain ⟨g,h1,h2⟩:=hh cs' hx
   exact ⟨g,hr.trans h1,h2⟩
 |.map b,_,_,h0,⟨v,e,hu,hh⟩=>by
   have h:=h0 b (by simp [QD.names])
   refine ⟨v,e,(h hu).1,fun ka kt vt l hb=>?_⟩
   obtain ⟨x',hx,hsh,hr⟩:=(h hu).2 _ hb
   obtain ⟨l',rfl⟩:=Qm7 hsh
   obtain ⟨g,h1,h2⟩:=hh ka kt vt l' hx
   exact ⟨g,hr.trans h1,h2⟩
def QuV (E E':Env) (f:Nat→Nat) (i:Nat):Prop :=
 E.U i→E'.U (f i)∧∀ x,E'.H (f i)=some x→∃ x',E.H i=some x'∧shape x=shape x'∧E'.ρ (f i)=E.ρ i
theorem IR.rn {E E':Env} {f:Nat→Nat} (hw:E'.w=E.w):∀ {cs:List QD} {vs:List Value},((∀ g,E.S g→E'.S g)∨cs.any QD.isRo=false)→(∀ i ∈ cs.flatMap (·.names),QuV E E' f i)→IR E cs vs→IR E' (cs.map (·.rn f)) vs
 | [],_,_,_,hc=>hc
 |c :: cs,_,hS,h,⟨r,s,e,h1,h2⟩=>⟨r,s,e,h1.rn hw (hS.imp id fun e=>by simp at e;exact e.1) (fun i hi=>h i (by simp [hi])),h2.rn hw (hS.imp id fun e=>by simp at e ⊢;exact e.2) (fun i hi=>h i (by simp at hi ⊢;exact .inr hi))⟩
theorem V1R.rn {E E':Env} {f:Nat→Nat} (hw:E'.w=E.w):{x:V1}→{v:Value}→((∀ g,E.S g→E'.S g)∨x.hasRo=false)→(∀ i ∈ x.names,QuV E E' f i)→V1R E x v→V1R E' (x.rn f) v
 |.c _,_,hS,h,hc=>QaC.rn hw hS h hc
 |.agg _,_,hS,h,⟨vals,e,hc⟩=>⟨vals,e,hc.rn hw hS h⟩
theorem VsR.rn {E E':Env} {f:Nat→Nat} (hw:E'.w=E.w):∀ {xs:List V1} {vs:List Value},((∀ g,E.S g→E'.S g)∨xs.any (·.hasRo)=false)→(∀ i ∈ xs.flatMap (·.names),QuV E E' f i)→VsR E xs vs→VsR E' (xs.map (·.rn f)) vs
 | [],_,_,_,hc=>hc
 |_ :: _,_,hS,h,⟨v,r,e,h1,h2⟩=>⟨v,r,e,h1.rn hw (hS.imp id fun e=>by simp at e;exact e.1) (fun i hi=>h i (by simp [hi])),h2.rn hw (hS.imp id fun e=>by simp at e ⊢;exact e.2) (fun i hi=>h i (by simp at hi ⊢;exact .inr hi))⟩
def AV.names:AV→List Nat
 |.dead=>[]
 |.one v=>v.names
 |.tup l=>l.flatMap (·.names)
theorem AVR.rn {E E':Env} {f:Nat→Nat} (hw:E'.w=E.w):{x:AV}→{v:Value}→((∀ g,E.S g→E'.S g)∨x.hasRo=false)→(∀ i ∈ x.names,QuV E E' f i)→AVR E x v→AVR E' (x.rn f) v
 |.dead,_,_,_,_=>trivial
 |.one _,_,hS,h,hc=>V1R.rn hw hS h hc
 |.tup _,_,hS,h,⟨vs,e,hc⟩=>⟨vs,e,hc.rn hw hS h⟩
theorem Qm6.rn {E E':Env} {f:Nat→Nat} {i:Nat} {x:Blk} (hw:E'.w=E.w) (hS:(∀ g,E.S g→E'.S g)∨x.plain=true) (h:∀ j ∈ x.names,QuV E E' f j) (hr:E'.ρ (f i)=E.ρ i) (hb:Qm6 E i x):Qm6 E' (f i) (x.rn f):=by
 cases x with
 |arr t l =>
   rcases hb with ⟨h1,h2⟩ |⟨g,cs,el,us,spare,h1,h2,h3,h4⟩
   ·exact .inl ⟨hr.trans h1,h2⟩
   ·refine .inr ⟨g,cs,el,us,spare,hr.trans h1,by rw [hw];exact h2,h3,h4.mono fun _ _ hx=>?_⟩
    rcases hS with hS |hS
    ·exact hx.mono fun g hg=>⟨hS g hg,by rw [hw]⟩
    ·exact hx.flat hS
 |var is =>
   obtain ⟨g,cs,el,h1,h2,h3⟩:=hb
   exact ⟨g,cs,el,hr.trans h1,by rw [hw];exact h2,h3.rn hw (hS.imp id fun e=>by simp [Blk.plain] at e ⊢;exact e) h⟩
 |mp ka kt vt l =>
   obtain ⟨g,es,c,h1,h2,h3⟩:=hb
   exact ⟨g,es,c,hr.trans h1,by rw [hw];exact h2,h3⟩
theorem VsR.len {E:Env}:∀ {xs:List V1} {vs:List Value},VsR E xs vs→vs.length=xs.length
 | [],_,h=>by simp only [VsR] at h;subst h;rfl
 |_ :: _,_,⟨_,_,e,_,h⟩=>by subst e;simp [h.len]
end
section
variable {P:Program} {T:Tab}
theorem QiQ:∀ (l:List Blk) (H:Nat→Option Blk) (nm b:Nat),addF H nm l b=if nm≤b∧b < nm+l.length then l[b-nm]? else H b
 | [],H,nm,b=>by simp [addF];omega
 |x :: l,H,nm,b=>by
   rw [addF,QiQ l]
   by_cases h:b=nm
   ·subst h
    rw [if_neg (by omega),if_pos (by simp)]
    simp
   ·by_cases h2:nm+1≤b∧b < nm+1+l.length
    ·rw [if_pos h2,if_pos (by simp;omega),show b-nm=(b-(nm+1))+1 from by omega]
     simp
    ·rw [if_neg h2,if_neg h,if_neg (by simp;omega)]
theorem Qdw {α β:Type} {f:α→Option β}:∀ {l:List α} {r:List β},QeB f l=some r→r.length=l.length∧∀ (i:Nat) x,l[i]?=some x→∃ y,f x=some y∧r[i]?=some y
 | [],r,h=>by
   simp only [QeB,Option.some.injEq] at h
   subst h
   exact ⟨rfl,fun i x h=>by simp at h⟩
 |a :: l,r,h=>by
   unfold QeB at h
   cases h1:f a with
   |none=>rw [h1] at h;cases h
   |some y =>
     rw [h1] at h
     simp only at h
     cases h2:QeB f l with
     |none=>rw [h2] at h;cases h
     |some ys =>
       rw [h2] at h
       injection h with h
       subst h
       obtain ⟨h3,h4⟩:=Qdw h2
       refine ⟨by simp [h3],fun i x hx=>?_⟩
       cases i with
       |zero=>simp at hx;subst hx;exact ⟨y,h1,rfl⟩
       |succ i=>exact h4 i x (by simpa using hx)
def Qdx (E:Env) (us:List Nat):Env:={ w:=E.w,ρ:=fun _=>none,S:=SU E us,H:=fun _=>none,U:=fun _=>False }
theorem Qne {E:Env} (hH:Qt E) (us:List Nat):Qt (Qdx E us) :=
 ⟨fun b x h=>by simp [Qdx] at h,fun b b' x x' g h=>by simp [Qdx] at h,fun g hg=>by
   rcases hg with hg |⟨u,y,hu,hy,hr⟩
   ·exact hH.st g hg
   ·exact (QaG hH hy hr).1⟩
theorem Qkc {E:Env} {look:Nat→Option Blk} (hH:Qt E) (hl:∀ b x,look b=some x→E.H b=some x) {us:List Nat} {c c':QD} {vs:List Value} (hu:∀ n ∈ c.names,n ∈ us) (h:Qdu look c=some c') (hc:QaC E c vs):QaC (Qdx E us) c' vs:=by
 unfold Qdu at h
 split at h
 ·injection h with h;subst h;exact hc
 ·injection h with h;subst h;exact hc
 ·injection h with h
  subst h
  obtain ⟨caps,e,h1,_⟩:=hc
  exact ⟨caps,e,h1,fun i b hb=>by simp at hb⟩
 ·split at h
  ·rename_i t l hs
   injection h with h
   subst h
   have hlen:=hc.len
   have:c.size=1:=by cases c<;>first |rfl |(simp [Qak] at hs)
   rw [this] at hlen
   match vs,hlen with
   | [v],_ =>
     exact ⟨v,rfl,(QbU hH hl hs hc).mono (fun g hg=>⟨hg.mono hu,rfl⟩) fun _ _ hx=>hx.mono fun g hg=>⟨.inl hg,rfl⟩⟩
  ·cases h
theorem QxE {E:Env} {look:Nat→Option Blk} (hH:Qt E) (hl:∀ b x,look b=some x→E.H b=some x) {us:List Nat}:∀ {cs cs':List QD} {vs:List Value},(∀ n ∈ cs.flatMap (·.names),n ∈ us)→QeB (Qdu look) cs=some cs'→IR E cs vs→IR (Qdx E us) cs' vs
 | [],cs',vs,_,h,hr=>by
   simp only [QeB,Option.some.injEq] at h
   subst h
   exact hr
 |c :: cs,cs',_,hu,h,⟨r,s,e,h1,h2⟩=>by
   subst e
   unfold QeB at h
   cases h3:Qdu look c with
   |none=>rw [h3] at h;cases h
   |some y =>
     rw [h3] at h
     simp only at h
     cases h4:QeB (Qdu look) cs with
     |none=>rw [h4] at h;cases h
     |some ys =>
       rw [h4] at h
       injection h with h
       subst h
       exact ⟨r,s,rfl,Qkc hH hl (fun n hn=>hu n (by simp [hn])) h3 h1,QxE hH hl (fun n hn=>hu n (by simp at hn ⊢;exact .inr hn)) h4 h2⟩
theorem Qq2 {E:Env} {look:Nat→Option Blk} (hH:Qt E) (hl:∀ b x,look b=some x→E.H b=some x) {us:List Nat} {x y:V1} {v:Value} (hu:∀ n ∈ x.names,n ∈ us) (h:QeK look x=some y) (hx:V1R E x v):V1R (Qdx E us) y v:=by
 cases x with
 |c c =>
   simp only [QeK] at h
   cases h1:Qdu look c with
   |none=>rw [h1] at h;cases h
   |some c'=>rw [h1] at h;injection h with h;subst h;exact Qkc hH hl hu h1 hx
 |agg cs =>
   simp only [QeK] at h
   cases h1:QeB (Qdu look) cs with
   |none=>rw [h1] at h;cases h
   |some cs' =>
     rw [h1] at h;injection h with h;subst h
     obtain ⟨vals,e,hr⟩:=hx
     exact ⟨vals,e,QxE hH hl hu h1 hr⟩
theorem Qft {E:Env} {look:Nat→Option Blk} (hH:Qt E) (hl:∀ b x,look b=some x→E.H b=some x) {us:List Nat}:∀ {xs ys:List V1} {vs:List Value},(∀ n ∈ xs.flatMap (·.names),n ∈ us)→QeB (QeK look) xs=some ys→VsR E xs vs→VsR (Qdx E us) ys vs
 | [],ys,vs,_,h,hr=>by
   simp only [QeB,Option.some.injEq] at h
   subst h
   exact hr
 |x :: xs,ys,_,hu,h,⟨v,r,e,h1,h2⟩=>by
   subst e
   unfold QeB at h
   cases h3:QeK look x with
   |none=>rw [h3] at h;cases h
   |some y =>
     rw [h3] at h
     simp only at h
     cases h4:QeB (QeK look) xs with
     |none=>rw [h4] at h;cases h
     |some ys' =>
       rw [h4] at h
       injection h with h
       subst h
       exact ⟨v,r,rfl,Qq2 hH hl (fun n hn=>hu n (by simp [hn])) h3 h1,Qft hH hl (fun n hn=>hu n (by simp at hn ⊢;exact .inr hn)) h4 h2⟩
theorem QgJ {look:Nat→Option Blk} {c c':QD} (h:Qdu look c=some c') (ho:c.isOwn=false):c.names=[]:=by
 cases c<;>first
  |rfl
  |(simp [QD.isOwn] at ho;done)
  |(simp [Qdu,Qak] at h;done)
  |(rename_i f bs
     cases bs with
     |nil=>rfl
     |cons a r=>simp [Qdu,Qak] at h)
theorem Qh8 {look:Nat→Option Blk}:∀ {cs cs':List QD},QeB (Qdu look) cs=some cs'→cs.any QD.isOwn=false→cs.flatMap (·.names)=[]
 | [],_,_,_=>rfl
 |c :: cs,cs',h,ho=>by
   unfold QeB at h
   cases h3:Qdu look c with
   |none=>rw [h3] at h;cases h
   |some y =>
     rw [h3] at h
     simp only at h
     cases h4:QeB (Qdu look) cs with
     |none=>rw [h4] at h;cases h
     |some ys =>
       simp only [List.any_cons,Bool.or_eq_false_iff] at ho
       simp [QgJ h3 ho.1,Qh8 h4 ho.2]
theorem QlX {look:Nat→Option Blk} {x y:V1} (h:QeK look x=some y) (ho:x.hasOwn=false):x.names=[]:=by
 cases x with
 |c c =>
   simp only [QeK] at h
   cases h1:Qdu look c with
   |none=>rw [h1] at h;cases h
   |some c'=>exact QgJ h1 ho
 |agg cs =>
   simp only [QeK] at h
   cases h1:QeB (Qdu look) cs with
   |none=>rw [h1] at h;cases h
   |some cs'=>exact Qh8 h1 ho
theorem QfV {look:Nat→Option Blk}:∀ {xs ys:List V1},QeB (QeK look) xs=some ys→xs.any (·.hasOwn)=false→xs.flatMap (·.names)=[]
 | [],_,_,_=>rfl
 |c :: cs,cs',h,ho=>by
   unfold QeB at h
   cases h3:QeK look c with
   |none=>rw [h3] at h;cases h
   |some y =>
     rw [h3] at h
     simp only at h
     cases h4:QeB (QeK look) cs with
     |none=>rw [h4] at h;cases h
     |some ys =>
       simp only [List.any_cons,Bool.or_eq_false_iff] at ho
       simp [QlX h3 ho.1,QfV h4 ho.2]
theorem Qkd {E:Env} (hH:Qt E) {us:List Nat} {nm:Nat} {r:AV} {fresh:List Blk} {p:Option Prop} {v:Value} {E':Env} (hnm:∀ k,k < fresh.length→¬ E.U (nm+k)) (hb:Qj1 (Qdx E us) 0 r [] fresh v E')
 (hro:us=[]∨(r.hasRo=false∧∀ b ∈ fresh,b.plain=true)) :
 ∃ E'',E''.w=E'.w∧QaI E { pre:=p,val:=r.rn (fun i=>nm+i),add:=fresh.map (·.rn (fun i=>nm+i)),set:=[] } nm E''∧AVR E'' (r.rn (fun i=>nm+i)) v:=by
 have hfrz:∀ g,¬ (QgI (Qdx E us)).own0 g:=by
  rintro g ⟨b,x,h,_⟩
  simp [Qdx] at h
 have hsize:E.w.heap.size≤E'.w.heap.size:=hb.fr.size
 have hold:∀ g,g < E.w.heap.size→E'.w.heap[g]?=E.w.heap[g]?:=fun g hg=>hb.fr.old g hg (hfrz g)
 have hHf:∀ b,E'.H b=fresh[b]?:=fun b=>by rw [hb.H b,if_neg (by omega)];rfl
 have hUf:∀ b,E'.U b ↔ b < fresh.length:=fun b=>by rw [hb.U b];omega
 have hown:∀ b x g,E'.H b=some x→E'.ρ b=some g→E.w.heap.size≤g:=fun b x g hx hr=>(hb.fr.own b x g hx hr).resolve_right (hfrz g)
 let E'':Env:=Env.mk E'.w (fun b=>if nm≤b∧b < nm+fresh.length then E'.ρ (b-nm) else E.ρ b) (fun g=>E.S g∨(E.w.heap.size≤g∧E'.S g))
  (fun b=>if nm≤b∧b < nm+fresh.length then (fresh[b-nm]?).map (·.rn (fun i=>nm+i)) else E.H b) (fun b=>E.U b∨(nm≤b∧b < nm+fresh.length))
 have hin:∀ b,E.U b→¬ (nm≤b∧b < nm+fresh.length):=fun b hU h=>hnm (b-nm) (by omega) (by rwa [show nm+(b-nm)=b from by omega])
 have hlive:∀ b x,E.H b=some x→¬ (nm≤b∧b < nm+fresh.length):=fun b x hx=>hin b (hH.blk b x hx).1
 have hext:Ext E E'':=by
  refine ⟨fun g hg=>⟨.inl hg,hold g (hH.st g hg)⟩,fun b h=>.inl h,fun b x' hU hx=>?_⟩
  have hx:E.H b=some x':=by simpa [E'',hin b hU] using hx
  refine ⟨x',hx,by simp [E'',hin b hU],rfl,fun g cs el hr hc=>⟨cs,?_,rfl⟩⟩
  exact (hold g (Array.getElem?_eq_some_iff.1 hc).1).trans hc
 have hat:∀ i,QuV E' E'' (fun i=>nm+i) i:=by
  intro i hi
  rw [hUf] at hi
  have h1:nm≤nm+i∧nm+i < nm+fresh.length:=by omega
  refine ⟨.inr h1,fun x hx=>?_⟩
  simp only [E'',h1,and_self,if_true,Nat.add_sub_cancel_left] at hx
  cases hf:fresh[i]? with
  |none=>rw [hf] at hx;cases hx
  |some y =>
    rw [hf] at hx
    injection hx with hx
    subst hx
    exact ⟨y,by rw [hHf,hf],Qco _ _,by simp [E'',h1]⟩
 have hS1:us=[]→∀ g,E'.S g→E''.S g:=by
  intro he g hg
  rcases hb.fr.S g hg with h |h |h
  ·left
   rcases h with h |⟨u,_,hu,_⟩
   ·exact h
   ·subst he;simp at hu
  ·exact .inr ⟨h,hg⟩
  ·exact absurd h (hfrz g)
 have hS2:(∀ g,E'.S g→E''.S g)∨r.hasRo=false:=hro.imp hS1 (·.1)
 have hnew:∀ b,nm≤b∧b < nm+fresh.length→∀ x,E''.H b=some x→∃ y,fresh[b-nm]?=some y∧x=y.rn (fun i=>nm+i):=by
  intro b hbn x hx
  simp only [E'',hbn,and_self,if_true] at hx
  cases hf:fresh[b-nm]? with
  |none=>rw [hf] at hx;cases hx
  |some y=>rw [hf] at hx;injection hx with hx;exact ⟨y,rfl,hx.symm⟩
 refine ⟨E'',rfl,⟨hext,⟨fun b x hx=>?_,fun b b' x x' g hx hx' hr hr'=>?_,fun g hg=>?_⟩,fun b=>?_,fun b=>?_,fun F hF=>⟨hb.fr.os.trans hF.os,hb.fr.tape.trans hF.tape,hb.fr.output.trans hF.output,Nat.le_trans hF.size hsize,fun g hg ho=>?_,fun b x g hx hr=>?_,fun g hg=>?_⟩⟩,?_⟩
 ·by_cases hbn:nm≤b∧b < nm+fresh.length
  ·obtain ⟨y,hf,rfl⟩:=hnew b hbn x hx
   have hy:E'.H (b-nm)=some y:=by rw [hHf,hf]
   obtain ⟨h1,h2,h3⟩:=hb.ok.blk _ _ hy
   have hmem:y ∈ fresh:=List.mem_of_getElem? hf
   have:=Qm6.rn (E:=E') (E':=E'') (f:=fun i=>nm+i) (i:=b-nm) rfl (hro.imp hS1 (fun h=>h.2 y hmem)) (fun j _=>hat j) (by show E''.ρ (nm+(b-nm))=_;simp only [E''];rw [if_pos (by omega)];congr 1;omega) h2
   rw [show nm+(b-nm)=b from by omega] at this
   refine ⟨.inr hbn,this,fun g hg=>?_⟩
   simp only [E'',hbn,and_self,if_true] at hg
   have hge:=hown _ _ _ hy hg
   rintro (h |⟨_,h⟩)
   ·have:=hH.st g h;omega
   ·exact h3 g hg h
  ·simp only [E'',hbn,if_false] at hx
   obtain ⟨h1,h2,h3⟩:=hH.blk b x hx
   refine ⟨.inl h1,h2.ext hext (by simp [E'',hbn]) (fun g hg=>hold g (QaG hH hx hg).1),fun g hg=>?_⟩
   simp only [E'',hbn,if_false] at hg
   have hlt:=(QaG hH hx hg).1
   rintro (h |⟨h,_⟩)
   ·exact h3 g hg h
   ·omega
 ·by_cases hbn:nm≤b∧b < nm+fresh.length<;>by_cases hbn':nm≤b'∧b' < nm+fresh.length
  ·obtain ⟨y,hf,rfl⟩:=hnew b hbn x hx
   obtain ⟨y',hf',rfl⟩:=hnew b' hbn' x' hx'
   simp only [E'',hbn,hbn',and_self,if_true] at hr hr'
   have:=hb.ok.inj _ _ y y' g (by rw [hHf,hf]) (by rw [hHf,hf']) hr hr'
   omega
  ·obtain ⟨y,hf,rfl⟩:=hnew b hbn x hx
   simp only [E'',hbn,hbn',and_self,if_true,if_false] at hx' hr hr'
   have h1:=hown _ y _ (by rw [hHf,hf]) hr
   have h2:=(QaG hH hx' hr').1
   omega
  ·obtain ⟨y,hf,rfl⟩:=hnew b' hbn' x' hx'
   simp only [E'',hbn,hbn',and_self,if_true,if_false] at hx hr hr'
   have h1:=hown _ y _ (by rw [hHf,hf]) hr'
   have h2:=(QaG hH hx hr).1
   omega
  ·simp only [E'',hbn,hbn',if_false] at hx hx' hr hr'
   exact hH.inj b b' x x' g hx hx' hr hr'
 ·rcases hg with h |⟨_,h⟩
  ·have:=hH.st g h
   exact Nat.lt_of_lt_of_le this hsize
  ·exact hb.ok.st g h
 ·simp only [Qfs,QiQ,List.length_map]
  by_cases hbn:nm≤b∧b < nm+fresh.length
  ·simp [E'',hbn]
  ·simp [E'',hbn]
 ·simp [E'']
 ·exact (hold g (Nat.lt_of_lt_of_le hg hF.size)).trans (hF.old g hg ho)
 ·by_cases hbn:nm≤b∧b < nm+fresh.length
  ·obtain ⟨y,hf,rfl⟩:=hnew b hbn x hx
   simp only [E'',hbn,and_self,if_true] at hr
   exact .inl (Nat.le_trans hF.size (hown _ y _ (by rw [hHf,hf]) hr))
  ·simp only [E'',hbn,if_false] at hx hr
   exact hF.own b x g hx hr
 ·rcases hg with h |⟨h,_⟩
  ·exact hF.S g h
  ·exact .inr (.inl (Nat.le_trans hF.size h))
 ·exact AVR.rn (E:=E') (E':=E'') rfl hS2 (fun i _=>hat i) hb.val
theorem Qpg (E:Env) (us:List Nat):Qdx (QM E us) []=Qdx E us:=by
 have h:SU (QM E us) []=SU E us:=by
  funext g
  apply propext
  constructor
  ·rintro (h |⟨u,x,hu,_⟩)
   ·exact h
   ·cases hu
  ·exact fun h=>.inl h
 show Env.mk E.w (fun _=>none) (SU (QM E us) []) (fun _=>none) (fun _=>False)=Env.mk E.w (fun _=>none) (SU E us) (fun _=>none) (fun _=>False)
 rw [h]
theorem QuW {E:Env} (hH:Qt E) {us:List Nat} {nm:Nat} {r:AV} {fresh:List Blk} {p:Option Prop} {v:Value} {E':Env} (hnm:∀ k,k < fresh.length→¬ E.U (nm+k)) (hb:Qj1 (Qdx E us) 0 r [] fresh v E') :
 ∃ E'',E''.w=E'.w∧QaI E { pre:=p,val:=r.rn (fun i=>nm+i),add:=fresh.map (·.rn (fun i=>nm+i)),set:=us.map fun n=>(n,none) } nm E''∧AVR E'' (r.rn (fun i=>nm+i)) v:=by
 rw [← Qpg] at hb
 obtain ⟨E'',h1,h2,h3⟩:=Qkd (p:=p) (QeN hH us) (nm:=nm) hnm hb (.inl rfl)
 refine ⟨E'',h1,⟨(Q8 us).trans h2.ext,h2.ok,fun b=>?_,h2.U,fun F hF=>h2.fr F (QeO us hF)⟩,h3⟩
 rw [h2.H b]
 have e:Qfs E.H (us.map fun n=>(n,none))=(QM E us).H:=by
  funext c
  rw [QeM];rfl
 show addF (Qfs (QM E us).H []) nm _ b=addF (Qfs E.H (us.map fun n=>(n,none))) nm _ b
 rw [e];rfl
end
section
variable {P:Program} {T:Tab}
theorem QiR {look:Nat→Option Blk}:∀ (f:Nat) (bs acc acc':List Nat),acc.Nodup→reach look f bs acc=some acc' →
 acc'.Nodup∧(∀ b ∈ bs,b ∈ acc')∧(∀ b ∈ acc,b ∈ acc')∧∀ b ∈ acc',b ∈ acc∨∃ x,look b=some x∧∀ n ∈ x.names,n ∈ acc'
 |f,[],acc,acc',hn,h=>by
   have:acc=acc':=by cases f<;>simpa [reach] using h
   subst this
   exact ⟨hn,fun b hb=>by simp at hb,fun _ h=>h,fun b hb=>.inl hb⟩
 |0,b :: bs,acc,acc',hn,h=>by simp [reach] at h
 |f+1,b :: bs,acc,acc',hn,h=>by
   unfold reach at h
   cases hc:acc.contains b with
   |true =>
     rw [hc] at h
     simp only at h
     obtain ⟨h1,h2,h3,h4⟩:=QiR f bs acc acc' hn h
     have hb:b ∈ acc:=by simpa using hc
     refine ⟨h1,fun c hcm=>?_,h3,h4⟩
     rcases List.mem_cons.1 hcm with rfl |hcm
     ·exact h3 _ hb
     ·exact h2 c hcm
   |false =>
     rw [hc] at h
     simp only at h
     cases hl:look b with
     |none=>rw [hl] at h;cases h
     |some x =>
       rw [hl] at h
       simp only at h
       have hb:b ∉ acc:=by simpa using hc
       obtain ⟨h1,h2,h3,h4⟩:=QiR f (bs++x.names) (acc++[b]) acc' (by rw [List.nodup_append];exact ⟨hn,by simp,fun a ha c hcm=>by simp at hcm;subst hcm;exact fun e=>hb (e ▸ ha)⟩) h
       refine ⟨h1,fun c hcm=>?_,fun c hcm=>h3 c (by simp [hcm]),fun c hcm=>?_⟩
       ·rcases List.mem_cons.1 hcm with rfl |hcm
        ·exact h3 _ (by simp)
        ·exact h2 c (by simp [hcm])
       ·rcases h4 c hcm with h5 |h5
        ·rcases List.mem_append.1 h5 with h5 |h5
         ·exact .inl h5
         ·simp at h5
          subst h5
          exact .inr ⟨x,hl,fun n hnm=>h2 n (by simp [hnm])⟩
        ·exact .inr h5
theorem Qnf:∀ (l:List Nat) (i k b:Nat),l.Nodup→l[i]?=some b→Qo8 b l k=some (k+i)
 |x :: l,0,k,b,hn,h=>by
   simp at h
   subst h
   unfold Qo8
   simp
 |x :: l,i+1,k,b,hn,h=>by
   simp at h
   have hne:x≠b:=by
    rintro rfl
    exact (List.nodup_cons.1 hn).1 (List.mem_of_getElem? h)
   unfold Qo8
   have:Nat.beq x b=false:=by
    rw [Bool.eq_false_iff]
    intro e
    exact hne (Nat.eq_of_beq_eq_true e)
   rw [this]
   show Qo8 b l (k+1)=_
   rw [Qnf l i (k+1) b (List.nodup_cons.1 hn).2 h]
   simp only [Option.some.injEq]
   omega
theorem Qdk {acc:List Nat} {i b:Nat} (hn:acc.Nodup) (h:acc[i]?=some b):idx acc b=i:=by
 unfold idx
 rw [Qnf acc i 0 b hn h]
 simp
theorem Qdy {acc:List Nat} {b:Nat} (hn:acc.Nodup) (h:b ∈ acc):acc[idx acc b]?=some b:=by
 obtain ⟨i,hi⟩:=List.mem_iff_getElem?.1 h
 rw [Qdk hn hi]
 exact hi
theorem Qng:∀ (acc:List Nat) (upd:List (Option Blk)) (H:Nat→Option Blk),acc.Nodup→upd.length=acc.length→∀ b,Qfs H (acc.zip upd) b=if b ∈ acc then (upd[idx acc b]?).getD none else H b
 | [],upd,H,_,hl,b=>by
   have:upd=[]:=List.eq_nil_of_length_eq_zero hl
   subst this
   simp [Qfs]
 |a :: acc,o :: upd,H,hn,hl,b=>by
   have hn':=List.nodup_cons.1 hn
   simp only [List.zip_cons_cons,Qfs]
   rw [Qng acc upd _ hn'.2 (by simpa using hl)]
   by_cases hb:b ∈ acc
   ·rw [if_pos hb,if_pos (by simp [hb])]
    have h1:=Qdy hn'.2 hb
    have h2:(a :: acc)[idx acc b+1]?=some b:=by simpa using h1
    rw [Qdk hn h2]
    simp
   ·rw [if_neg hb]
    by_cases hba:b=a
    ·subst hba
     have h2:(b :: acc)[0]?=some b:=rfl
     rw [if_pos rfl,if_pos (by simp),Qdk hn h2]
     simp
    ·rw [if_neg hba,if_neg (by simp [hb,hba])]
 |a :: acc,[],H,_,hl,b=>by simp at hl
def Qea (E:Env) (acc:List Nat) (bl:List Blk):Env :=
 { w:=E.w,ρ:=fun i=>(acc[i]?).bind E.ρ,S:=E.S,H:=fun i=>bl[i]?,U:=fun i=>i < bl.length }
theorem Qnh {E:Env} (hH:Qt E) {acc:List Nat} {bl:List Blk} (hn:acc.Nodup) (hlen:bl.length=acc.length) (hbl:∀ (i b:Nat),acc[i]?=some b→∃ x,E.H b=some x∧bl[i]?=some (x.rn (idx acc))) {b:Nat} (hb:b ∈ acc):QuV E (Qea E acc bl) (idx acc) b:=by
 intro hU
 have h1:=Qdy hn hb
 refine ⟨by show idx acc b < bl.length;rw [hlen];exact (List.getElem?_eq_some_iff.1 h1).1,fun x hx=>?_⟩
 obtain ⟨y,hy,hy2⟩:=hbl _ _ h1
 have hx:bl[idx acc b]?=some x:=hx
 rw [hy2] at hx
 injection hx with hx
 subst hx
 exact ⟨y,hy,Qco _ _,by simp [Qea,h1]⟩
theorem QuX {E:Env} (hH:Qt E) {acc:List Nat} {bl:List Blk} (hn:acc.Nodup) (hlen:bl.length=acc.length) (hbl:∀ (i b:Nat),acc[i]?=some b→∃ x,E.H b=some x∧bl[i]?=some (x.rn (idx acc))∧∀ n ∈ x.names,n ∈ acc):Qt (Qea E acc bl):=by
 have hbl':∀ (i b:Nat),acc[i]?=some b→∃ x,E.H b=some x∧bl[i]?=some (x.rn (idx acc)):=fun i b h=>let ⟨x,h1,h2,_⟩:=hbl i b h;⟨x,h1,h2⟩
 have get:∀ (i:Nat) x,bl[i]?=some x→∃ b y,acc[i]?=some b∧E.H b=some y∧x=y.rn (idx acc)∧∀ n ∈ y.names,n ∈ acc:=by
  intro i x hx
  have hi:i < acc.length:=by rw [← hlen];exact (List.getElem?_eq_some_iff.1 hx).1
  obtain ⟨y,h1,h2,h3⟩:=hbl i acc[i] (List.getElem?_eq_getElem hi)
  rw [hx] at h2
  injection h2 with h2
  exact ⟨acc[i],y,List.getElem?_eq_getElem hi,h1,h2,h3⟩
 refine ⟨fun i x hx=>?_,fun i i' x x' g hx hx' hr hr'=>?_,hH.st⟩
 ·obtain ⟨b,y,h1,h2,rfl,h4⟩:=get i x hx
  obtain ⟨k1,k2,k3⟩:=hH.blk b y h2
  have:=Qm6.rn (E:=E) (E':=Qea E acc bl) (f:=idx acc) (i:=b) rfl (.inl fun _ h=>h) (fun j hj=>Qnh hH hn hlen hbl' (h4 j hj)) (by rw [Qdk hn h1];simp [Qea,h1]) k2
  rw [Qdk hn h1] at this
  exact ⟨(List.getElem?_eq_some_iff.1 hx).1,this,fun g hg=>k3 g (by simpa [Qea,h1] using hg)⟩
 ·obtain ⟨b,y,h1,h2,rfl,h4⟩:=get i x hx
  obtain ⟨b',y',h1',h2',rfl,h4'⟩:=get i' x' hx'
  have:=hH.inj b b' y y' g h2 h2' (by simpa [Qea,h1] using hr) (by simpa [Qea,h1'] using hr')
  subst this
  rw [← Qdk hn h1,← Qdk hn h1']
theorem Qph {E:Env} (hH:Qt E) {acc:List Nat} {bl:List Blk} {nm:Nat} {r:AV} {upd:List (Option Blk)} {fresh:List Blk} {p:Option Prop} {v:Value} {E':Env} (hn:acc.Nodup) (hlen:bl.length=acc.length) (hul:upd.length=acc.length)
 (hbl:∀ (i b:Nat),acc[i]?=some b→∃ x,E.H b=some x∧bl[i]?=some (x.rn (idx acc))) (hnm:∀ k,k < fresh.length→¬ E.U (nm+k)) (hb:Qj1 (Qea E acc bl) bl.length r upd fresh v E') (back:Nat→Nat) (hback:∀ i,back i=match acc[i]? with |some b=>b |none=>nm+(i-acc.length)) :
 ∃ E'',E''.w=E'.w∧QaI E { pre:=p,val:=r.rn back,add:=fresh.map (·.rn back),set:=acc.zip (upd.map fun o=>match o with |some b=>some (b.rn back) |none=>none) } nm E''∧AVR E'' (r.rn back) v:=by
 have hback1:∀ i b,acc[i]?=some b→back i=b:=fun i b h=>by rw [hback,h]
 have hback2:∀ i,acc.length≤i→back i=nm+(i-acc.length):=fun i h=>by rw [hback,List.getElem?_eq_none h]
 have hown0:∀ g,(QgI (Qea E acc bl)).own0 g→∃ b x,b ∈ acc∧E.H b=some x∧E.ρ b=some g:=by
  rintro g ⟨i,x,hx,hr⟩
  have hi:i < acc.length:=by rw [← hlen];exact (List.getElem?_eq_some_iff.1 hx).1
  obtain ⟨y,h1,h2⟩:=hbl i acc[i] (List.getElem?_eq_getElem hi)
  exact ⟨acc[i],y,List.getElem_mem hi,h1,by simpa [Qea,List.getElem?_eq_getElem hi] using hr⟩
 have hsize:E.w.heap.size≤E'.w.heap.size:=hb.fr.size
 have hold:∀ g,g < E.w.heap.size→(∀ b x,b ∈ acc→E.H b=some x→E.ρ b≠some g)→E'.w.heap[g]?=E.w.heap[g]?:=fun g hg ho=>hb.fr.old g hg fun h=>by
  obtain ⟨b,x,h1,h2,h3⟩:=hown0 g h
  exact ho b x h1 h2 h3
 have hinU:∀ b,E.U b→¬ (nm≤b∧b < nm+fresh.length):=fun b hU h=>hnm (b-nm) (by omega) (by rwa [show nm+(b-nm)=b from by omega])
 have haccU:∀ b,b ∈ acc→E.U b∧∃ x,E.H b=some x:=fun b hba=>by
  obtain ⟨x,h1,_⟩:=hbl _ b (Qdy hn hba)
  exact ⟨(hH.blk b x h1).1,x,h1⟩
 let E'':Env:=Env.mk E'.w (fun b=>if nm≤b∧b < nm+fresh.length then E'.ρ (acc.length+(b-nm)) else E.ρ b) E'.S
  (fun b=>if nm≤b∧b < nm+fresh.length then (fresh[b-nm]?).map (·.rn back) else if b ∈ acc then ((upd[idx acc b]?).getD none).map (·.rn back) else E.H b) (fun b=>E.U b∨(nm≤b∧b < nm+fresh.length))
 have hHold:∀ i,i < acc.length→E'.H i=(upd[i]?).getD none:=fun i hi=>by rw [hb.H i,if_pos (by omega)]
 have hHnew:∀ i,E'.H (acc.length+i)=fresh[i]?:=fun i=>by rw [hb.H _,if_neg (by omega),hlen,Nat.add_sub_cancel_left]
 have hacc:∀ b,b ∈ acc→∀ x,E''.H b=some x→∃ y,E'.H (idx acc b)=some y∧x=y.rn back∧E'.ρ (idx acc b)=E.ρ b∧∃ z,E.H b=some z∧shape y=shape z:=by
  intro b hba x hx
  have hnin:=hinU b (haccU b hba).1
  have h1:=Qdy hn hba
  have hi:idx acc b < acc.length:=(List.getElem?_eq_some_iff.1 h1).1
  simp only [E'',hnin,if_false,hba,if_true] at hx
  rw [← hHold _ hi] at hx
  cases hy:E'.H (idx acc b) with
  |none=>rw [hy] at hx;cases hx
  |some y =>
    rw [hy] at hx
    injection hx with hx
    obtain ⟨z,hz,hr,hsh,_⟩:=hb.ext.H (idx acc b) y (by show idx acc b < bl.length;omega) hy
    obtain ⟨z0,h2,h3⟩:=hbl _ b h1
    have hz:bl[idx acc b]?=some z:=hz
    rw [h3] at hz
    injection hz with hz
    subst hz
    exact ⟨y,rfl,hx.symm,by rw [hr];simp [Qea,h1],z0,h2,by rw [hsh,Qco]⟩
 have hnew:∀ b,nm≤b∧b < nm+fresh.length→∀ x,E''.H b=some x→∃ y,E'.H (acc.length+(b-nm))=some y∧fresh[b-nm]?=some y∧x=y.rn back:=by
  intro b hbn x hx
  simp only [E'',hbn,and_self,if_true] at hx
  cases hf:fresh[b-nm]? with
  |none=>rw [hf] at hx;cases hx
  |some y=>rw [hf] at hx;injection hx with hx;exact ⟨y,by rw [hHnew,hf],rfl,hx.symm⟩
 have hoth:∀ b,¬ (nm≤b∧b < nm+fresh.length)→b ∉ acc→∀ x,E''.H b=some x→E.H b=some x:=fun b h1 h2 x hx=>by simpa [E'',h1,h2] using hx
 have hothw:∀ b x,b ∉ acc→E.H b=some x→∀ g,E.ρ b=some g→E'.w.heap[g]?=E.w.heap[g]?:=fun b x hba hx g hr =>
  hold g (QaG hH hx hr).1 fun c y hc hy hrc=>hba (hH.inj c b y x g hy hx hrc hr ▸ hc)
 have hS:∀ g,E.S g→E'.S g∧E'.w.heap[g]?=E.w.heap[g]?:=fun g hg=>hb.ext.S g hg
 have hext:Ext E E'':=by
  refine ⟨fun g hg=>hS g hg,fun b h=>.inl h,fun b x' hU hx=>?_⟩
  have hnin:=hinU b hU
  by_cases hba:b ∈ acc
  ·obtain ⟨y,h1,rfl,h3,z,h4,h5⟩:=hacc b hba x' hx
   refine ⟨z,h4,by simp [E'',hnin],by rw [Qco,h5],fun g cs el hr hc=>?_⟩
   have hi:=Qdy hn hba
   obtain ⟨_,_,_,_,hsz⟩:=hb.ext.H (idx acc b) y (by show idx acc b < bl.length;have:=(List.getElem?_eq_some_iff.1 hi).1;omega) h1
   exact hsz g cs el (by simp [Qea,hi,hr]) hc
  ·have hx:=hoth b hnin hba x' hx
   exact ⟨x',hx,by simp [E'',hnin],rfl,fun g cs el hr hc=>⟨cs,(hothw b x' hba hx g hr).trans hc,rfl⟩⟩
 have hat:∀ i,QuV E' E'' back i:=by
  intro i hU
  have hi:i < acc.length+fresh.length:=by have:=(hb.U i).1 hU;omega
  by_cases hia:i < acc.length
  ·have h1:=List.getElem?_eq_getElem hia
   rw [hback1 i _ h1]
   have hm:acc[i] ∈ acc:=List.getElem_mem hia
   refine ⟨.inl (haccU _ hm).1,fun x hx=>?_⟩
   obtain ⟨y,h2,rfl,h4,_⟩:=hacc _ hm x hx
   rw [Qdk hn h1] at h2 h4
   exact ⟨y,h2,Qco _ _,by simp [E'',hinU _ (haccU _ hm).1,h4]⟩
  ·rw [hback2 i (by omega)]
   have h1:nm≤nm+(i-acc.length)∧nm+(i-acc.length) < nm+fresh.length:=by omega
   refine ⟨.inr h1,fun x hx=>?_⟩
   obtain ⟨y,h2,h3,rfl⟩:=hnew _ h1 x hx
   rw [show acc.length+(nm+(i-acc.length)-nm)=i from by omega] at h2
   exact ⟨y,h2,Qco _ _,by simp only [E'',h1,and_self,if_true];congr 1;omega⟩
 have hownr:∀ i y g,E'.H i=some y→E'.ρ i=some g→E.w.heap.size≤g∨∃ b x,b ∈ acc∧E.H b=some x∧E.ρ b=some g:=fun i y g hy hr=>(hb.fr.own i y g hy hr).imp id (hown0 g)
 refine ⟨E'',rfl,⟨hext,⟨fun b x hx=>?_,fun b b' x x' g hx hx' hr hr'=>?_,hb.ok.st⟩,fun b=>?_,fun b=>?_,fun F hF=>⟨hb.fr.os.trans hF.os,hb.fr.tape.trans hF.tape,hb.fr.output.trans hF.output,Nat.le_trans hF.size hsize,fun g hg ho=>?_,fun b x g hx hr=>?_,fun g hg=>?_⟩⟩,?_⟩
 ·by_cases hbn:nm≤b∧b < nm+fresh.length
  ·obtain ⟨y,h1,h2,rfl⟩:=hnew b hbn x hx
   obtain ⟨k1,k2,k3⟩:=hb.ok.blk _ _ h1
   have hbk:back (acc.length+(b-nm))=b:=by rw [hback2 _ (by omega)];omega
   have:=Qm6.rn (E:=E') (E':=E'') (f:=back) (i:=acc.length+(b-nm)) rfl (.inl fun _ h=>h) (fun j _=>hat j) (by rw [hbk];simp [E'',hbn]) k2
   rw [hbk] at this
   exact ⟨.inr hbn,this,fun g hg=>k3 g (by simpa [E'',hbn] using hg)⟩
  ·by_cases hba:b ∈ acc
   ·obtain ⟨y,h1,rfl,h3,_⟩:=hacc b hba x hx
    obtain ⟨k1,k2,k3⟩:=hb.ok.blk _ _ h1
    have hbk:back (idx acc b)=b:=hback1 _ _ (Qdy hn hba)
    have:=Qm6.rn (E:=E') (E':=E'') (f:=back) (i:=idx acc b) rfl (.inl fun _ h=>h) (fun j _=>hat j) (by rw [hbk];simp [E'',hbn,h3]) k2
    rw [hbk] at this
    exact ⟨.inl (haccU b hba).1,this,fun g hg=>k3 g (by rw [h3];simpa [E'',hbn] using hg)⟩
   ·have hx:=hoth b hbn hba x hx
    obtain ⟨k1,k2,k3⟩:=hH.blk b x hx
    refine ⟨.inl k1,k2.ext hext (by simp [E'',hbn]) (fun g hg=>hothw b x hba hx g hg),fun g hg hs=>?_⟩
    have hg:E.ρ b=some g:=by simpa [E'',hbn] using hg
    have hlt:=(QaG hH hx hg).1
    rcases hb.fr.S g hs with h |h |h
    ·exact k3 g hg h
    ·have h:E.w.heap.size≤g:=h
     omega
    ·obtain ⟨c,y,hc,hy,hr⟩:=hown0 g h
     exact hba (hH.inj c b y x g hy hx hr hg ▸ hc)
 ·
  have cls:∀ b x,E''.H b=some x→(∃ i y,E'.H i=some y∧E''.ρ b=E'.ρ i∧back i=b)∨(b ∉ acc∧E.H b=some x∧E''.ρ b=E.ρ b):=by
   intro b x hx
   by_cases hbn:nm≤b∧b < nm+fresh.length
   ·obtain ⟨y,h1,h2,rfl⟩:=hnew b hbn x hx
    exact .inl ⟨_,y,h1,by simp [E'',hbn],by rw [hback2 _ (by omega)];omega⟩
   ·by_cases hba:b ∈ acc
    ·obtain ⟨y,h1,rfl,h3,_⟩:=hacc b hba x hx
     exact .inl ⟨_,y,h1,by simp [E'',hbn,h3],hback1 _ _ (Qdy hn hba)⟩
    ·exact .inr ⟨hba,hoth b hbn hba x hx,by simp [E'',hbn]⟩
  rcases cls b x hx with ⟨i,y,h1,h2,h3⟩ |⟨h1,h2,h3⟩<;>rcases cls b' x' hx' with ⟨i',y',h1',h2',h3'⟩ |⟨h1',h2',h3'⟩
  ·rw [h2] at hr
   rw [h2'] at hr'
   have:=hb.ok.inj i i' y y' g h1 h1' hr hr'
   subst this
   rw [← h3,← h3']
  ·rw [h2] at hr
   rw [h3'] at hr'
   have hlt:=(QaG hH h2' hr').1
   rcases hownr i y g h1 hr with h |⟨c,z,hc,hz,hrc⟩
   ·omega
   ·exact absurd (hH.inj c b' z x' g hz h2' hrc hr' ▸ hc) h1'
  ·rw [h3] at hr
   rw [h2'] at hr'
   have hlt:=(QaG hH h2 hr).1
   rcases hownr i' y' g h1' hr' with h |⟨c,z,hc,hz,hrc⟩
   ·omega
   ·exact absurd (hH.inj c b z x g hz h2 hrc hr ▸ hc) h1
  ·rw [h3] at hr
   rw [h3'] at hr'
   exact hH.inj b b' x x' g h2 h2' hr hr'
 ·rw [QiQ,Qng acc _ _ hn (by simp [hul])]
  simp only [List.length_map]
  by_cases hbn:nm≤b∧b < nm+fresh.length
  ·simp [E'',hbn]
  ·simp only [E'',hbn,if_false]
   by_cases hba:b ∈ acc
   ·simp only [hba,if_true,List.getElem?_map]
    cases upd[idx acc b]? with
    |none=>rfl
    |some o=>cases o<;>rfl
   ·simp [hba]
 ·simp [E'']
 ·refine (hold g (Nat.lt_of_lt_of_le hg hF.size) fun b x hba hx hr=>?_).trans (hF.old g hg ho)
  rcases hF.own b x g hx hr with h |h
  ·omega
  ·exact ho h
 ·have own':∀ i y,E'.H i=some y→E'.ρ i=some g→F.w0.heap.size≤g∨F.own0 g:=fun i y hy hry=>by
   rcases hownr i y g hy hry with h |⟨c,z,hc,hz,hrc⟩
   ·exact .inl (Nat.le_trans hF.size h)
   ·exact hF.own c z g hz hrc
  by_cases hbn:nm≤b∧b < nm+fresh.length
  ·obtain ⟨y,h1,h2,rfl⟩:=hnew b hbn x hx
   exact own' _ y h1 (by simpa [E'',hbn] using hr)
  ·by_cases hba:b ∈ acc
   ·obtain ⟨y,h1,rfl,h3,_⟩:=hacc b hba x hx
    exact own' _ y h1 (by rw [h3];simpa [E'',hbn] using hr)
   ·exact hF.own b x g (hoth b hbn hba x hx) (by simpa [E'',hbn] using hr)
 ·rcases hb.fr.S g hg with h |h |h
  ·exact hF.S g h
  ·exact .inr (.inl (Nat.le_trans hF.size h))
  ·obtain ⟨c,z,hc,hz,hrc⟩:=hown0 g h
   exact .inr (hF.own c z g hz hrc)
 ·exact AVR.rn (E:=E') (E':=E'') rfl (.inl fun _ h=>h) (fun i _=>hat i) hb.val
end
structure QjX (E:Env) (g:Nat) (es es':Array MapEntry) (c c':Nat) (w':World):Prop where
 was:E.w.heap[g]?=some (.map es c)
 is:w'.heap[g]?=some (.map es' c')
 oth:∀ i,i≠g→w'.heap[i]?=E.w.heap[i]?
 size:w'.heap.size=E.w.heap.size
 os:w'.os=E.w.os
 tape:w'.tape=E.w.tape
 output:w'.output=E.w.output
section
variable {E:Env} {b g:Nat} {ka:Bool} {kt vt:Ty} {l l':List (Den kt × Den vt)} {es es':Array MapEntry} {c c':Nat} {w':World}
theorem Qni (hH:Qt E) (hx:E.H b=some (.mp ka kt vt l)) (hr:E.ρ b=some g) (hw:QjX E g es es' c c' w'):Ext E (QdR E b (.mp ka kt vt l') w'):=by
 have hns:∀ i,E.S i→i≠g:=fun i hi e=>(hH.blk b _ hx).2.2 g hr (e ▸ hi)
 refine ⟨fun i hi=>⟨hi,hw.oth i (hns i hi)⟩,fun _ h=>h,fun d y hc hy=>?_⟩
 by_cases h:d=b
 ·subst h
  simp only [QdR,if_true,Option.some.injEq] at hy
  subst hy
  refine ⟨_,hx,rfl,rfl,fun g' cs0 el0 hr' hc0=>?_⟩
  rw [hr] at hr';injection hr' with hr';subst hr'
  rw [hw.was] at hc0
  cases hc0
 ·simp only [QdR,h,if_false] at hy
  refine ⟨y,hy,rfl,rfl,fun g' cs0 el0 hr' hc0=>⟨cs0,?_,rfl⟩⟩
  have:g'≠g:=fun e=>h (hH.inj d b y _ g hy hx (e ▸ hr') hr)
  exact (hw.oth g' this).trans hc0
theorem Qzc (hH:Qt E) (hx:E.H b=some (.mp ka kt vt l)) (hr:E.ρ b=some g) (hw:QjX E g es es' c c' w') (hb:QlR ka kt vt l' es'.toList):Qt (QdR E b (.mp ka kt vt l') w'):=by
 have hext:=Qni (l':=l') hH hx hr hw
 have hlive:∀ d y,(QdR E b (.mp ka kt vt l') w').H d=some y→∃ y0,E.H d=some y0:=by
  intro d y hy
  by_cases h:d=b
  ·exact ⟨_,h ▸ hx⟩
  ·exact ⟨y,by simpa [QdR,h] using hy⟩
 refine ⟨fun d y hy=>?_,fun d d' y y' i hy hy' hr1 hr2=>?_,fun i hi=>?_⟩
 ·by_cases h:d=b
  ·subst h
   simp only [QdR,if_true,Option.some.injEq] at hy
   subst hy
   obtain ⟨h1,h2,h3⟩:=hH.blk d _ hx
   exact ⟨h1,⟨g,es',c',hr,hw.is,hb⟩,h3⟩
  ·simp only [QdR,h,if_false] at hy
   obtain ⟨h1,h2,h3⟩:=hH.blk d y hy
   exact ⟨h1,h2.ext hext rfl (fun g' hg'=>hw.oth g' fun e=>h (hH.inj d b y _ g hy hx (e ▸ hg') hr)),h3⟩
 ·obtain ⟨y0,h0⟩:=hlive d y hy
  obtain ⟨y1,h1⟩:=hlive d' y' hy'
  exact hH.inj d d' y0 y1 i h0 h1 hr1 hr2
 ·rw [show (QdR E b (.mp ka kt vt l') w').w=w' from rfl,hw.size]
  exact hH.st i hi
theorem QaI.setM {r:Res} {nm:Nat} (hH:Qt E) (hr1:r.add=[]) (hr2:r.set=[(b,some (.mp ka kt vt l'))]) (hx:E.H b=some (.mp ka kt vt l)) (hr:E.ρ b=some g) (hw:QjX E g es es' c c' w') (hb:QlR ka kt vt l' es'.toList) :
 QaI E r nm (QdR E b (.mp ka kt vt l') w'):=by
 refine ⟨Qni hH hx hr hw,Qzc hH hx hr hw hb,fun d=>?_,fun d=>?_,fun F h=>⟨hw.os.trans h.os,hw.tape.trans h.tape,hw.output.trans h.output,?_,fun i hi ho=>?_,fun d y i hy hr'=>?_,h.S⟩⟩
 ·rw [hr1,hr2];rfl
 ·rw [hr1]
  simp [QdR]
  omega
 ·rw [show (QdR E b (.mp ka kt vt l') w').w=w' from rfl,hw.size];exact h.size
 ·have:i≠g:=by
   rintro rfl
   rcases h.own b _ i hx hr with e |e
   ·omega
   ·exact ho e
  exact (hw.oth i this).trans (h.old i hi ho)
 ·by_cases hc:d=b
  ·subst hc;exact h.own d _ i hx hr'
  ·exact h.own d y i (by simpa [QdR,hc] using hy) hr'
theorem QaI.newM {r:Res} {nm:Nat} {cl:Nat} (hH:Qt E) (hr1:r.add=[.mp ka kt vt []]) (hr2:r.set=[]) (hnm:¬ E.U nm)
 (hw:w'.heap=E.w.heap.push (.map #[] cl)) (h1:w'.os=E.w.os) (h2:w'.tape=E.w.tape) (h3:w'.output=E.w.output):QaI E r nm (Qbx E nm (.mp ka kt vt []) w'):=by
 have hext:=QiL hH hnm (blk:=.mp ka kt vt []) hw
 refine ⟨hext,⟨fun d y hy=>?_,fun d d' y y' i hy hy' e1 e2=>?_,fun i hi=>?_⟩,fun d=>?_,fun d=>?_,fun F hF=>QqS hH hw h1 h2 h3 hF⟩
 ·by_cases h:d=nm
  ·subst h
   simp only [Qbx,if_true,Option.some.injEq] at hy
   subst hy
   refine ⟨.inr rfl,⟨_,#[],cl,by simp [Qbx],Qgh hw,trivial⟩,fun g hg hs=>?_⟩
   simp only [Qbx,if_true,Option.some.injEq] at hg
   have:=hH.st g hs
   omega
  ·simp only [Qbx,h,if_false] at hy
   obtain ⟨k1,k2,k3⟩:=hH.blk d y hy
   exact ⟨.inl k1,k2.ext hext (by simp [Qbx,h]) (fun g hg=>QbN hw (QaG hH hy hg).1),fun g hg=>k3 g (by simpa [Qbx,h] using hg)⟩
 ·by_cases h:d=nm<;>by_cases h':d'=nm
  ·rw [h,h']
  ·simp only [Qbx,h,h',if_true,if_false,Option.some.injEq] at hy hy' e1 e2
   have:=(QaG hH hy' e2).1
   omega
  ·simp only [Qbx,h,h',if_true,if_false,Option.some.injEq] at hy hy' e1 e2
   have:=(QaG hH hy e1).1
   omega
  ·simp only [Qbx,h,h',if_false] at hy hy' e1 e2
   exact hH.inj d d' y y' i hy hy' e1 e2
 ·rw [show (Qbx E nm (.mp ka kt vt []) w').w=w' from rfl,hw]
  have:=hH.st i hi
  simp
  omega
 ·rw [hr1,hr2]
  simp only [addF,Qbx,Qfs]
 ·rw [hr1]
  simp only [Qbx,List.length_singleton]
  constructor
  ·rintro (h |h)
   ·exact .inl h
   ·exact .inr (by omega)
  ·rintro (h |h)
   ·exact .inl h
   ·exact .inr (by omega)
end
section
variable {P:Program} {T:Tab}
theorem Qbb:∀ {u:Ty},Qas u=true→u.flat=true
 |.int _,_=>rfl
 |.ints _ _,h=>by cases h
 |.bool,_=>rfl
 |.str,_=>rfl
 |.sl _,h=>by cases h
 |.pair a b,h=>by
   simp only [Qas,Bool.and_eq_true] at h
   simp only [Ty.flat,Bool.and_eq_true]
   exact ⟨Qbb h.1,Qbb h.2⟩
theorem Qc5:∀ {u:Ty} {x y:Den u},u.flat=true→QF u x y=true→x=y
 |.int _,x,y,_,h=>of_decide_eq_true h
 |.ints _ _,x,y,_,h=>of_decide_eq_true h
 |.bool,x,y,_,h=>by
   have h:((x:Bool) == y)=true:=h
   exact eq_of_beq h
 |.str,x,y,_,h=>(Lib.bytes_beq_iff x y).1 h
 |.sl _,_,_,h,_=>by cases h
 |.pair a b,x,y,h,he=>by
   simp only [Ty.flat,Bool.and_eq_true] at h
   simp only [QF,Bool.and_eq_true] at he
   exact Prod.ext (Qc5 h.1 he.1) (Qc5 h.2 he.2)
theorem CR.uniq {w:World} {S:Nat→Prop}:∀ {u:Ty} {x:Den u} {vs us:List Value},u.flat=true→CR w S u x vs→CR w S u x us→vs=us
 |.int _,_,_,_,_,h,h'=>by rw [show _=_ from h,show _=_ from h']
 |.ints _ _,_,_,_,_,h,h'=>by rw [h.2,h'.2]
 |.bool,_,_,_,_,h,h'=>by rw [show _=_ from h,show _=_ from h']
 |.str,_,_,_,_,h,h'=>by rw [show _=_ from h,show _=_ from h']
 |.sl _,_,_,_,h,_,_=>by cases h
 |.pair a b,_,_,_,hf,⟨r,s,e,h1,h2⟩,⟨r',s',e',h1',h2'⟩=>by
   simp only [Ty.flat,Bool.and_eq_true] at hf
   rw [e,e',h1.uniq hf.1 h1',h2.uniq hf.2 h2']
theorem Qpi (s:ByteArray):(s == s)=true:=(MapKept.bytes_beq s s).2 rfl
theorem Qbe {w:World} {S:Nat→Prop} (n:Nat):∀ {u:Ty} {x:Den u} {vs:List Value},Qas u=true→CR w S u x vs→∀ v ∈ vs,Instr.sameBits n v v=true
 |.int _,_,_,_,h=>by intro v hv;rw [show _=_ from h] at hv;simp at hv;subst hv;simp [Instr.sameBits]
 |.ints _ _,_,_,hf,_=>by cases hf
 |.bool,_,_,_,h=>by intro v hv;rw [show _=_ from h] at hv;simp at hv;subst hv;simp [Instr.sameBits]
 |.str,_,_,_,h=>by intro v hv;rw [show _=_ from h] at hv;simp at hv;subst hv;simp [Instr.sameBits,Qpi]
 |.sl _,_,_,hf,_=>by cases hf
 |.pair a b,_,_,hf,⟨r,s,e,h1,h2⟩=>by
   simp only [Qas,Bool.and_eq_true] at hf
   intro v hv
   subst e
   rcases List.mem_append.1 hv with hv |hv
   ·exact Qbe n hf.1 h1 v hv
   ·exact Qbe n hf.2 h2 v hv
theorem Qke {ka:Bool} {kt:Ty} {d:Den kt} {v:Value} (hf:Qas kt=true) (h:KV ka kt d v):Instr.sameBits 10000 v v=true:=by
 obtain ⟨vs,hc,h⟩:=h
 have hc:=hc default fun _=>True
 rcases h with ⟨_,rfl⟩ |⟨_,rfl⟩
 ·have:=Qbe 9999 hf hc
  simp only [Instr.sameBits,beq_self_eq_true,Bool.true_and,List.all_eq_true]
  intro p hp
  have:p.1=p.2∧p.1 ∈ vs:=by
   have hz:∀ (l:List Value) (p:Value × Value),p ∈ l.zip l→p.1=p.2∧p.1 ∈ l:=by
    intro l
    induction l with
    |nil=>intro p hp;simp at hp
    |cons a l ih =>
      intro p hp
      simp only [List.zip_cons_cons,List.mem_cons] at hp
      rcases hp with rfl |hp
      ·exact ⟨rfl,by simp⟩
      ·obtain ⟨e1,e2⟩:=ih p hp
       exact ⟨e1,List.mem_cons_of_mem _ e2⟩
   exact hz vs p hp
  rw [← this.1]
  exact Qbe 9999 hf hc p.1 this.2
 ·exact Qbe 10000 hf hc v (by simp)
theorem QuY {ka:Bool} {kt:Ty} {d:Den kt} {v v':Value} (hf:Qas kt=true) (h:KV ka kt d v) (h':KV ka kt d v'):v=v':=by
 obtain ⟨vs,hc,h⟩:=h
 obtain ⟨us,hd,h'⟩:=h'
 have:=(hc default fun _=>True).uniq (Qbb hf) (hd default fun _=>True)
 subst this
 rcases h with ⟨h1,rfl⟩ |⟨h1,h2⟩<;>rcases h' with ⟨h1',rfl⟩ |⟨h1',h2'⟩
 ·rfl
 ·rw [h1] at h1';cases h1'
 ·rw [h1] at h1';cases h1'
 ·rw [h2] at h2';injection h2'
def Qkf (P:Program) (k:TypeId) (ka:Bool) (kt:Ty):Prop :=
 (ka=false∧Qac P k=false∧((∃ i,kt=.int i∧P.underlying k=some (.int i))∨(kt=.bool∧P.underlying k=some .bool)∨(kt=.str∧P.underlying k=some .string))) ∨
 (ka=true∧Qac P k=true∧(∃ F,P.underlying k=some (.struct F))∧P.keyTypeAt 30 k=true∧QaX P 30 kt k=true)
theorem QfW {n m d:Nat} (em:Bool) (IH:∀ (u:Ty) (t:TypeId),QaX P n u t=true→P.keyTypeAt m t=true→Qas u=true→∀ (w w0:World) (S:Nat→Prop) (x:Value) (vs:List Value) (dx:Den u),Form P t x vs→CR w0 S u dx vs→(Instr.checkKey em d t x).run P w=.ok () w)
 {xs:Array Value} {w w0:World} {S:Nat→Prop}:∀ (fs:List Field) (u:Ty) (off:Nat) (px vs:List Value) (dx:Den u),Qd9 P (QaX P n) u fs off=true→Qas u=true→(∀ f ∈ fs,f.name≠ "_"∧P.keyTypeAt m f.type=true) →
 xs.toList=px++vs→px.length=off→CR w0 S u dx vs→(forIn fs PUnit.unit fun (f:Field) (r:PUnit)=>do
  if f.name≠ "_" then
   let v ← part f.type xs f.offset
   Instr.checkKey em d f.type v
   pure (ForInStep.yield PUnit.unit)
  else pure (ForInStep.yield PUnit.unit)).run P w=.ok PUnit.unit w
 | [],u,_,_,_,_,h,_,_,_,_,_=>by simp [Qd9] at h
 | [f],u,off,px,vs,dx,h,hk,hn,hx,hpx,cx=>by
   simp only [Qd9,Bool.and_eq_true] at h
   obtain ⟨⟨h1,h2⟩,h3⟩:=h
   have h2:=Nat.eq_of_beq_eq_true h2
   have h3:=Nat.eq_of_beq_eq_true h3
   obtain ⟨hn1,hk1⟩:=hn f (by simp)
   obtain ⟨D,i,hu,hi⟩:=Qgi hk1
   obtain ⟨a,ha,fa⟩:=QcH hi hu (xs:=xs) (pre:=px) (r:=vs) (s:=[]) (by simp [hx]) (by rw [cx.len,h3]) (fun hg=>by rw [cx.len];exact QdU h1 hg) w
   have he:=IH u f.type h1 hk1 hk w w0 S a vs dx fa cx
   rw [hpx,← h2] at ha
   simp only [List.forIn_cons,List.forIn_nil,Sem.run_bind,hn1,ne_eq,not_false_eq_true,if_true,Result.andThen_ok,ha,he,Sem.run_pure]
 |f :: g :: fs,u,off,px,vs,dx,h,hk,hn,hx,hpx,cx=>by
   cases u with
   |pair p q =>
     simp only [Qd9,Bool.and_eq_true] at h
     obtain ⟨⟨⟨h1,h2⟩,h3⟩,h4⟩:=h
     have h2:=Nat.eq_of_beq_eq_true h2
     have h3:=Nat.eq_of_beq_eq_true h3
     simp only [Qas,Bool.and_eq_true] at hk
     obtain ⟨hn1,hk1⟩:=hn f (by simp)
     obtain ⟨D,i,hu,hi⟩:=Qgi hk1
     obtain ⟨r,s,rfl,cx1,cx2⟩:=cx
     obtain ⟨a,ha,fa⟩:=QcH hi hu (xs:=xs) (pre:=px) (r:=r) (s:=s) (by simp [hx]) (by rw [cx1.len,h3]) (fun hg=>by rw [cx1.len];exact QdU h1 hg) w
     have he:=IH p f.type h1 hk1 hk.1 w w0 S a r dx.1 fa cx1
     have rest:=QfW em IH (xs:=xs) (w:=w) (g :: fs) q (off+p.size) (px++r) s dx.2 h4 hk.2 (fun f' hf'=>hn f' (List.mem_cons_of_mem _ hf')) (by simp [hx]) (by simp [hpx,cx1.len]) cx2
     rw [hpx,← h2] at ha
     rw [List.forIn_cons]
     simp only [Sem.run_bind,hn1,ne_eq,not_false_eq_true,if_true,Result.andThen_ok,ha,he,Sem.run_pure]
     exact rest
   |_=>simp [Qd9] at h
theorem Qkg (em:Bool):∀ (n m:Nat) (u:Ty) (t:TypeId),QaX P n u t=true→P.keyTypeAt m t=true→Qas u=true→∀ (d:Nat),n+1≤d→∀ (w w0:World) (S:Nat→Prop) (x:Value) (vs:List Value) (dx:Den u),Form P t x vs→CR w0 S u dx vs →
 (Instr.checkKey em d t x).run P w=.ok () w
 |0,_,u,t,h,_,_=>by simp [QaX] at h
 |n+1,0,u,t,_,h,_=>by simp [Program.keyTypeAt] at h
 |n+1,m+1,u,t,h,hk,hf=>by
   intro d hd w w0 S x vs dx fx cx
   obtain ⟨d,rfl⟩:∃ d',d=d'+1:=⟨d-1,by omega⟩
   unfold QaX at h
   split at h
   ·rename_i hu
    have hg:Qac P t=false:=by simp [Qac,hu]
    simp only [CR] at cx
    subst cx
    rcases fx with ⟨_,h'⟩ |⟨fx,_⟩
    ·rw [hg] at h';cases h'
    injection fx with fx _
    subst fx
    simp [Instr.checkKey,run_underlying hu]
   ·rename_i hu
    have hg:Qac P t=false:=by simp [Qac,hu]
    simp only [CR] at cx
    subst cx
    rcases fx with ⟨_,h'⟩ |⟨fx,_⟩
    ·rw [hg] at h';cases h'
    injection fx with fx _
    subst fx
    simp [Instr.checkKey,run_underlying hu]
   ·rename_i hu
    have hg:Qac P t=false:=by simp [Qac,hu]
    simp only [CR] at cx
    subst cx
    rcases fx with ⟨_,h'⟩ |⟨fx,_⟩
    ·rw [hg] at h';cases h'
    injection fx with fx _
    subst fx
    simp [Instr.checkKey,run_underlying hu]
   ·cases hf
   ·rename_i F hu
    have hg:Qac P t=true:=by simp [Qac,hu]
    rcases fx with ⟨rfl,_⟩ |⟨_,h'⟩
    ·simp only [Bool.and_eq_true] at h
     unfold Program.keyTypeAt at hk
     simp only [hu,Bool.and_eq_true,Bool.not_eq_true',Array.all_eq_true'] at hk
     obtain ⟨⟨hall,_⟩,hst⟩:=hk
     rw [Instr.checkKey]
     simp only [Sem.run_bind,run_underlying hu,Result.andThen_ok]
     rw [← Array.forIn_toList]
     have:=QfW em (n:=n) (m:=m) (d:=d) (fun u t h1 h2 h3=>Qkg em n m u t h1 h2 h3 d (by omega)) (xs:=vs.toArray) (w:=w) F.toList _ 0 [] vs dx h.1 hf (fun f hf=>by
      have:=hall f (by simpa using hf)
      simpa using this) (by simp) rfl cx
     simp at this ⊢
     rw [this]
     rfl
    ·rw [hg] at h';cases h'
   ·cases hf
   ·cases h
theorem QgK {k:TypeId} {kt:Ty} (hk:Qkf P k false kt) {d d':Den kt} {v v':Value} (h:KV false kt d v) (h':KV false kt d' v'):∃ D,P.underlying k=some D∧Instr.sameNow D v v'=some (QF kt d d')∧(∀ em n w,(Instr.checkKey em (n+1) k v).run P w=.ok () w):=by
 obtain ⟨vs,hc,h⟩:=h
 obtain ⟨us,hd,h'⟩:=h'
 have hc:=hc default fun _=>True
 have hd:=hd default fun _=>True
 rcases h with ⟨h1,_⟩ |⟨_,rfl⟩
 ·cases h1
 rcases h' with ⟨h1,_⟩ |⟨_,rfl⟩
 ·cases h1
 rcases hk with ⟨_,_,hk⟩ |⟨hk,_⟩
 ·rcases hk with ⟨i,rfl,hu⟩ |⟨rfl,hu⟩ |⟨rfl,hu⟩
  ·simp only [CR] at hc hd
   injection hc with hc _;injection hd with hd _
   subst hc;subst hd
   exact ⟨_,hu,by simp [Instr.sameNow,QF];rfl,fun em n w=>by simp [Instr.checkKey,run_underlying hu]⟩
  ·simp only [CR] at hc hd
   injection hc with hc _;injection hd with hd _
   subst hc;subst hd
   exact ⟨_,hu,by simp [Instr.sameNow,QF],fun em n w=>by simp [Instr.checkKey,run_underlying hu]⟩
  ·simp only [CR] at hc hd
   injection hc with hc _;injection hd with hd _
   subst hc;subst hd
   refine ⟨_,hu,?_,fun em n w=>by simp [Instr.checkKey,run_underlying hu]⟩
   simp only [Instr.sameNow,QF,Option.some.injEq,Qs]
   rw [Bool.eq_iff_iff,MapKept.bytes_beq,Lib.bytes_beq_iff]
 ·cases hk
theorem QlR.at_ {ka:Bool} {kt vt:Ty}:∀ {l:List (Den kt × Den vt)} {es:List MapEntry},QlR ka kt vt l es→l.length=es.length
 | [],[],_=>rfl
 |_ :: _,_ :: _,⟨_,_,h⟩=>by simp [h.at_]
 | [],_ :: _,h=>h.elim
 |_ :: _,[],h=>h.elim
theorem QlR.push {ka:Bool} {kt vt:Ty} {k:Den kt} {v:Den vt} {e:MapEntry} (hk:KV ka kt k e.key) (hv:∀ w S,CR w S vt v [e.val]):∀ {l:List (Den kt × Den vt)} {es:List MapEntry},QlR ka kt vt l es→QlR ka kt vt (l++[(k,v)]) (es++[e])
 | [],[],_=>⟨hk,hv,trivial⟩
 |_ :: _,_ :: _,⟨h1,h2,h⟩=>⟨h1,h2,h.push hk hv⟩
 | [],_ :: _,h=>h.elim
 |_ :: _,[],h=>h.elim
inductive QfS (ka:Bool) (kt vt:Ty) (l:List (Den kt × Den vt)) (es:List MapEntry) (d:Den kt) (kv:Value) (i:Nat):Option (Nat × Value)→Prop where
 |none:Qaf l d=Option.none→(∀ v,Qaj l d v=l++[(d,v)])→QfS ka kt vt l es d kv i Option.none
 |some (j:Nat) (e:MapEntry) (v0:Den vt):es[j]?=Option.some e→e.key=kv→Qaf l d=Option.some v0→(∀ w S,CR w S vt v0 [e.val]) →
    (∀ v e',e'.key=kv→(∀ w S,CR w S vt v [e'.val])→QlR ka kt vt (Qaj l d v) (es.set j e'))→QfS ka kt vt l es d kv i (Option.some (i+j,e.val))
theorem QfS.cons {ka:Bool} {kt vt:Ty} {p:Den kt × Den vt} {l:List (Den kt × Den vt)} {e0:MapEntry} {es:List MapEntry} {d:Den kt} {kv:Value} {i:Nat} {r:Option (Nat × Value)} (hne:QF kt d p.1=false) (h0:KV ka kt p.1 e0.key) (h1:∀ w S,CR w S vt p.2 [e0.val])
 (h:QfS ka kt vt l es d kv (i+1) r):QfS ka kt vt (p :: l) (e0 :: es) d kv i r:=by
 cases h with
 |none g1 g2=>exact .none (by simp only [Qaf,hne,g1]) (fun v=>by simp only [Qaj,hne,g2,List.cons_append])
 |some j e v0 g1 g2 g3 g4 g5 =>
   have e1:i+1+j=i+(j+1):=by omega
   rw [e1]
   exact .some (j+1) e v0 (by simpa using g1) g2 (by simp only [Qaf,hne,g3]) g4 (fun v e' k1 k2=>by
    simp only [Qaj,hne,List.set_cons_succ]
    exact ⟨h0,h1,g5 v e' k1 k2⟩)
theorem QfS.here {ka:Bool} {kt vt:Ty} {p:Den kt × Den vt} {l:List (Den kt × Den vt)} {e0:MapEntry} {es:List MapEntry} {d:Den kt} {kv:Value} {i:Nat} (hf:Qas kt=true) (hd:KV ka kt d kv) (he:QF kt d p.1=true) (h0:KV ka kt p.1 e0.key) (h1:∀ w S,CR w S vt p.2 [e0.val])
 (hr:QlR ka kt vt l es):QfS ka kt vt (p :: l) (e0 :: es) d kv i (Option.some (i,e0.val)):=by
 have e:=Qc5 (Qbb hf) he
 have:=QfS.some (ka:=ka) (l:=p :: l) (es:=e0 :: es) (d:=d) (kv:=kv) (i:=i) 0 e0 p.2 rfl (QuY hf (e ▸ h0) hd) (by simp only [Qaf,he]) h1 (fun v e' k1 k2=>by
  simp only [Qaj,he,List.set_cons_zero]
  exact ⟨k1 ▸ hd,k2,hr⟩)
 simpa using this
theorem Qnj {k:TypeId} {kt vt:Ty} (hk:Qkf P k false kt) (hf:Qas kt=true) {d:Den kt} {kv:Value} (hd:KV false kt d kv) {D:TypeDesc} (hD:P.underlying k=some D):∀ (l:List (Den kt × Den vt)) (es:List MapEntry) (i:Nat),QlR false kt vt l es →
 ∃ r,Instr.findNow D kv es i=some r∧QfS false kt vt l es d kv i r
 | [],[],i,_=>⟨none,rfl,.none rfl fun v=>rfl⟩
 |p :: l,e :: es,i,⟨h0,h1,h2⟩=>by
   obtain ⟨D',hu,hs,_⟩:=QgK hk hd h0
   rw [hD] at hu
   injection hu with hu
   subst hu
   unfold Instr.findNow
   rw [hs]
   cases hb:QF kt d p.1 with
   |true=>exact ⟨_,rfl,QfS.here hf hd hb h0 h1 h2⟩
   |false =>
     obtain ⟨r,g1,g2⟩:=Qnj hk hf hd hD l es (i+1) h2
     exact ⟨r,g1,g2.cons hb h0 h1⟩
 | [],_ :: _,_,h=>h.elim
 |_ :: _,[],_,h=>h.elim
theorem QlY {k:TypeId} {kt:Ty} (hg:Qac P k=true) {d:Den kt} {v:Value} (h:KV true kt d v):∃ vs,Form P k v vs∧∀ w S,CR w S kt d vs:=by
 obtain ⟨vs,hc,h⟩:=h
 rcases h with ⟨_,rfl⟩ |⟨h,_⟩
 ·exact ⟨vs,.inl ⟨rfl,hg⟩,hc⟩
 ·cases h
theorem QgL {k:TypeId} {kt vt:Ty} (hk:Qkf P k true kt) (hf:Qas kt=true) {d:Den kt} {kv:Value} (hd:KV true kt d kv) {w:World}:∀ (l:List (Den kt × Den vt)) (es:List MapEntry) (i:Nat),QlR true kt vt l es →
 ∃ r,(Instr.findAsking k kv es i).run P w=.ok r w∧QfS true kt vt l es d kv i r
 | [],[],i,_=>⟨none,by simp [Instr.findAsking],.none rfl fun v=>rfl⟩
 |p :: l,e :: es,i,⟨h0,h1,h2⟩=>by
   rcases hk with ⟨hk,_⟩ |⟨_,hg,hF,hkt,hty⟩
   ·cases hk
   obtain ⟨vs,f1,c1⟩:=QlY hg hd
   obtain ⟨us,f2,c2⟩:=QlY hg h0
   have heq:(Op.equal k kv e.key).run P w=.ok (QF kt d p.1) w:=Qq0 30 30 kt k hty hkt 10000 (by omega) w w (fun _=>True) kv e.key vs us d p.1 f1 f2 (c1 _ _) (c2 _ _)
   unfold Instr.findAsking
   simp only [Sem.run_bind,heq,Result.andThen_ok]
   cases hb:QF kt d p.1 with
   |true=>exact ⟨_,by simp,QfS.here hf hd hb h0 h1 h2⟩
   |false =>
     obtain ⟨r,g1,g2⟩:=QgL (.inr ⟨rfl,hg,hF,hkt,hty⟩) hf hd l es (i+1) h2
     exact ⟨r,by simpa using g1,g2.cons hb h0 h1⟩
 | [],_ :: _,_,h=>h.elim
 |_ :: _,[],_,h=>h.elim
theorem Qnk {k:TypeId} {ka:Bool} {kt vt:Ty} (hk:Qkf P k ka kt) (hf:Qas kt=true) {d:Den kt} {kv:Value} (hd:KV ka kt d kv) (w:World) {l:List (Den kt × Den vt)} {es:List MapEntry} (h:QlR ka kt vt l es) :
 (∃ r,(Instr.findKey k kv es).run P w=.ok r w∧QfS ka kt vt l es d kv 0 r)∧∀ em,(Instr.checkKey em 10000 k kv).run P w=.ok () w:=by
 cases ka with
 |false =>
   have hu:∃ D,P.underlying k=some D:=by
    rcases hk with ⟨_,_,hk⟩ |⟨hk,_⟩
    ·rcases hk with ⟨i,_,hu⟩ |⟨_,hu⟩ |⟨_,hu⟩<;>exact ⟨_,hu⟩
    ·cases hk
   obtain ⟨D,hu⟩:=hu
   obtain ⟨r,h1,h2⟩:=Qnj hk hf hd hu l es 0 h
   obtain ⟨_,_,_,h3⟩:=QgK hk hd hd
   exact ⟨⟨r,MapKept.run_findKey hu h1,h2⟩,fun em=>h3 em 9999 w⟩
 |true =>
   obtain ⟨r,h1,h2⟩:=QgL hk hf hd (w:=w) l es 0 h
   rcases hk with ⟨hk,_⟩ |⟨_,hg,⟨F,hF⟩,hkt,hty⟩
   ·cases hk
   obtain ⟨vs,f1,c1⟩:=QlY hg hd
   refine ⟨⟨r,?_,h2⟩,fun em=>Qkg em 30 30 kt k hty hkt hf 10000 (by omega) w w (fun _=>True) kv vs d f1 (c1 _ _)⟩
   rw [run_findKey_eq w (by rw [hF])]
   exact h1
theorem Qfu {E:Env} (hH:Qt E) {ka:Bool} {kt:Ty} (hf:Qas kt=true) {x:AV} {v:Value} {d:Den kt} (hx:AVR E x v) (h:Qh2 ka kt x=some d):KV ka kt d v:=by
 unfold Qh2 at h
 split at h
 ·rename_i c
  split at h
  ·rename_i d' us hd
   injection h with h
   subst h
   have:CR E.w (SU E us) kt d' [v]:=Qbp hH (fun b x hx=>by cases hx) hd (show IR E [c] [v] from ⟨[v],[],rfl,hx,rfl⟩)
   exact ⟨[v],fun w S=>this.flat (Qbb hf),.inr ⟨rfl,rfl⟩⟩
  ·cases h
 ·rename_i cs
  split at h
  ·rename_i d' us hd
   injection h with h
   subst h
   obtain ⟨vals,rfl,hi⟩:=hx
   have:=Qbp hH (fun b x hx=>by cases hx) hd hi
   exact ⟨vals.toList,fun w S=>this.flat (Qbb hf),.inl ⟨rfl,by simp⟩⟩
  ·cases h
 ·cases h
theorem QlZ {t:Ty} (h:Qgg t=true):Qas t=true:=by cases t<;>first |rfl |cases h
theorem Qpj {E:Env} (hH:Qt E) {vt:Ty} (hf:Qgg vt=true) {x:AV} {v:Value} {d:Den vt} (hx:AVR E x v) (h:Qh2 false vt x=some d):∀ w S,CR w S vt d [v]:=by
 obtain ⟨vs,hc,h⟩:=Qfu hH (QlZ hf) hx h
 rcases h with ⟨h,_⟩ |⟨_,rfl⟩
 ·cases h
 ·exact hc
theorem Qo6.zeroN {t:TypeId} {ti:TI} (h:Qo6 P t ti):∃ z,(∀ w,(zeroValue t).run P w=.ok z w)∧(∀ E:Env,IR E ti.zero z.cells.toList)∧z.cells.size=ti.size ∧
 (∀ u,ti.ety=some u→u.size=ti.size∧∀ w S,CR w S u (dflt u) z.cells.toList)∧(ti.isAgg=false→z.cells.toList=[z]):=by
 obtain ⟨i,z,h1,h2,h3,h4,h5,h6,h7⟩:=h.inf
 exact ⟨z,fun w=>by simp [zeroValue,typeInfo,h1,h4],h5,h6,h7,fun hg=>h.nag hg i z h1 h4⟩
theorem Qq3 (hT:Qae P T) {t:TypeId} {ka:Bool} {kt vt:Ty} (h:Qm2 T t ka kt vt=true):∃ k e,P.underlying t=some (.map k e)∧Qkf P k ka kt∧Qas kt=true∧Qgg vt=true ∧
 ∃ z,(∀ w,(zeroValue e).run P w=.ok z w)∧∀ w S,CR w S vt (dflt vt) [z]:=by
 unfold Qm2 at h
 split at h
 ·rename_i ka' kt' vt' hm
  simp only [Bool.and_eq_true,decide_eq_true_eq] at h
  obtain ⟨⟨rfl,rfl⟩,rfl⟩:=h
  unfold QlO at hm
  split at hm
  ·rename_i k e _ _ _ _ _ ht
   have hu:=(hT.ty t _ ht).und
   simp only [QY] at hu
   split at hm
   ·rename_i ki ei hki hei
    split at hm
    ·rename_i kt vt hkt hvt
     split at hm
     ·rename_i hc
      injection hm with hm
      injection hm with e1 e2
      injection e2 with e2 e3
      subst e1;subst e2;subst e3
      simp only [Bool.and_eq_true,Bool.not_eq_true'] at hc
      obtain ⟨⟨⟨c1,c2⟩,c3⟩,c4⟩:=hc
      refine ⟨k,e,hu,?_,c2,c3,?_⟩
      ·have hkok:=hT.ty k _ hki
       have hd:=hkok.und
       unfold QBD at c1
       split at c1
       ·rename_i i i' hdk
        simp only [decide_eq_true_eq] at c1
        subst c1
        rw [hdk] at hd
        simp only [QY] at hd
        exact .inl ⟨by unfold TI.isAgg;rw [hdk],by simp [Qac,hd],.inl ⟨_,rfl,hd⟩⟩
       ·rename_i hdk
        rw [hdk] at hd
        simp only [QY] at hd
        exact .inl ⟨by unfold TI.isAgg;rw [hdk],by simp [Qac,hd],.inr (.inl ⟨rfl,hd⟩)⟩
       ·rename_i hdk
        rw [hdk] at hd
        simp only [QY] at hd
        exact .inl ⟨by unfold TI.isAgg;rw [hdk],by simp [Qac,hd],.inr (.inr ⟨rfl,hd⟩)⟩
       ·rename_i hdk
        have hcmp:=hkok.cmp c1
        rw [hkt] at hcmp
        simp only [QuP,Bool.and_eq_true,Bool.not_eq_true'] at hcmp
        obtain ⟨⟨⟨g1,g2⟩,g3⟩,_⟩:=hcmp
        rw [hdk] at hd
        simp only [QY] at hd
        obtain ⟨F,hF,_⟩:=hd
        exact .inr ⟨by unfold TI.isAgg;rw [hdk],g1,⟨F,hF⟩,g2,g3⟩
       ·cases c1
      ·have heok:=hT.ty e _ hei
       obtain ⟨z,z1,_,z3,z4,z5⟩:=heok.zeroN
       obtain ⟨hsz,hcr⟩:=z4 _ hvt
       refine ⟨z,z1,fun w S=>?_⟩
       have:=hcr w S
       have hz:z.cells.toList=[z]:=z5 c4
       rwa [hz] at this
     ·cases hm
    ·cases hm
   ·cases hm
  ·cases hm
 ·cases h
theorem Ql0 {E:Env} (hH:Qt E) {t:TypeId} {ka:Bool} {kt vt:Ty} {nm:Nat} (hnm:¬ E.U nm):∃ E',(Instr.makeMap t none).run P E.w=.ok (.map (some E.w.heap.size)) E'.w ∧
 QaI E { pre:=none,val:=.cell (.map nm),add:=[.mp ka kt vt []],set:=[] } nm E'∧AVR E' (.cell (.map nm)) (.map (some E.w.heap.size)):=by
 refine ⟨Qbx E nm (.mp ka kt vt []) (E.w.alloc (.map #[] 0)),rfl,QaI.newM (cl:=0) hH rfl rfl hnm rfl rfl rfl rfl,?_⟩
 refine ⟨_,⟨rfl,rfl⟩,.inr rfl,fun ka' kt' vt' l' _=>⟨E.w.heap.size,?_,rfl⟩⟩
 show (if nm=nm then some E.w.heap.size else E.ρ nm)=_
 rw [if_pos rfl]
theorem Qh9 {E:Env} {look:Nat→Option Blk} (hT:Qae P T) (hH:Qt E) (hl:∀ b x,look b=some x→E.H b=some x) {t:TypeId} {m k x:AV} {vm vk vx:Value} {r:Res} {nm:Nat} (hm:AVR E m vm) (hk:AVR E k vk) (hx:AVR E x vx) (h:QiF T look t m k x=some r) :
 ∃ E',(Instr.mapUpdate t vm vk vx).run P E.w=.ok () E'.w∧QaI E r nm E'∧r.val=.dead:=by
 unfold QiF at h
 split at h
 ·rename_i b
  split at h
  ·rename_i ka kt vt l hb
   split at h
   ·rename_i hi
    split at h
    ·rename_i d v hd hv
     injection h with h
     subst h
     obtain ⟨key,elem,hu,hfit,hflat,hsc,_⟩:=Qq3 hT hi
     have hbx:=hl _ _ hb
     obtain ⟨v0,⟨e,_⟩,_,hh⟩:=hm
     injection e with e
     subst e
     obtain ⟨g,hr,rfl⟩:=hh _ _ _ _ hbx
     obtain ⟨_,⟨g',es,c,h1,h2,h3⟩,_⟩:=hH.blk _ _ hbx
     rw [hr] at h1
     injection h1 with h1
     subst h1
     have hkv:=Qfu hH hflat hk hd
     have hvv:=Qpj hH hsc hx hv
     obtain ⟨⟨res,hf,hfound⟩,hck⟩:=Qnk hfit hflat hkv E.w h3
     have hset:=fun o'=>MapKept.heap_set (o':=o') h2
     have wr:∀ es' c',QjX E g es es' c c' { E.w with heap:=E.w.heap.setIfInBounds g (.map es' c') }:=fun es' c' =>
      ⟨h2,(hset (.map es' c')).1,(hset (.map es' c')).2,by simp,rfl,rfl,rfl⟩
     cases hfound with
     |none g1 g2 =>
       refine ⟨_,?_,QaI.setM hH rfl rfl hbx hr (wr (es.push ⟨vk,vx,c⟩) (c+1)) ?_,rfl⟩
       ·simp [Instr.mapUpdate,run_underlying hu,MapKept.run_getObj_map h2,hck,hf,MapKept.run_setObj_map _ h2,QdR]
       ·rw [g2,Array.toList_push]
        exact QlR.push hkv hvv h3
     |some j e v0 g1 g2 g3 g4 g5 =>
       have hj:es[j]?=some e:=by rw [← Array.getElem?_toList];exact g1
       have hst:(Instr.keyThatStays vk vk).run P E.w=.ok vk E.w:=by simp [Instr.keyThatStays,Qke hflat hkv]
       refine ⟨_,?_,QaI.setM hH rfl rfl hbx hr (wr (es.modify j fun e=>{ e with key:=vk,val:=vx }) c) ?_,rfl⟩
       ·have hlt:j < es.size:=(Array.getElem?_eq_some_iff.1 hj).1
        simp [Instr.mapUpdate,run_underlying hu,MapKept.run_getObj_map h2,hck,hf,MapKept.run_setObj_map _ h2,QdR,hj,g2,hst]
       ·have e1:(es.modify j fun e=>{ e with key:=vk,val:=vx }).toList=es.toList.set j { e with key:=vk,val:=vx }:=by
         rw [Array.toList_modify]
         apply List.ext_getElem?
         intro i
         rw [List.getElem?_modify,List.getElem?_set]
         by_cases hij:j=i
         ·subst hij
          have hlt:j < es.toList.length:=(List.getElem?_eq_some_iff.1 g1).1
          simp [g1,hlt]
          simpa using hlt
         ·simp [hij]
        rw [e1]
        exact g5 v _ rfl hvv
    ·cases h
   ·cases h
  ·cases h
 ·cases h
theorem QuZ {vt:Ty} {w:World} {S:Nat→Prop} {o:Option (Den vt)} {d:Den vt} {v:Value} (h:CR w S vt (Qf6 o d) [v]) {E:Env} (hw:E.w=w) (hS:E.S=S) {c:QD} (hc:cells vt (Qf6 o d)=[c]):QaC E c [v]:=by
 subst hw;subst hS
 have:=h.items
 rw [hc] at this
 obtain ⟨r,s,e,h1,h2⟩:=this
 simp only [IR] at h2
 subst h2
 simp at e
 subst e
 exact h1
theorem Qpk {E:Env} {look:Nat→Option Blk} (hT:Qae P T) (hH:Qt E) (hl:∀ b x,look b=some x→E.H b=some x) {t:TypeId} {m k:AV} {ok:Bool} {vm vk:Value} {r:Res} (hm:AVR E m vm) (hk:AVR E k vk) (h:QlP T look t m k ok=some r) :
 ∃ v,(Instr.lookup t vm vk ok).run P E.w=.ok v E.w∧AVR E r.val v∧r.add=[]∧r.set=[]:=by
 unfold QlP at h
 split at h
 ·rename_i b
  split at h
  ·rename_i ka kt vt l hb
   split at h
   ·rename_i hi
    split at h
    ·rename_i d hd
     split at h
     ·rename_i c hc
      obtain ⟨key,elem,hu,hfit,hflat,hsc,z,hz1,hz2⟩:=Qq3 hT hi
      have hbx:=hl _ _ hb
      obtain ⟨v0,⟨e,_⟩,_,hh⟩:=hm
      injection e with e
      subst e
      obtain ⟨g,hr,rfl⟩:=hh _ _ _ _ hbx
      obtain ⟨_,⟨g',es,cl,h1,h2,h3⟩,_⟩:=hH.blk _ _ hbx
      rw [hr] at h1
      injection h1 with h1
      subst h1
      have hkv:=Qfu hH hflat hk hd
      obtain ⟨⟨res,hf,hfound⟩,hck⟩:=Qnk hfit hflat hkv E.w h3
      have fin:∀ (v:Value) (b:Bool),(∀ w S,CR w S vt (Qf6 (Qaf l d) (dflt vt)) [v])→b=QiG (Qaf l d)→(Instr.lookup t (.map (some g)) vk ok).run P E.w=.ok (if ok then .tuple #[v,.bool b] else v) E.w→∃ v,(Instr.lookup t (.map (some g)) vk ok).run P E.w=.ok v E.w∧AVR E r.val v∧r.add=[]∧r.set=[]:=by
       intro v b hv hbb hrun
       subst hbb
       have hcell:=QuZ (hv E.w E.S) rfl rfl hc
       cases ok with
       |true =>
         simp only [ok1,Option.some.injEq] at h
         subst h
         exact ⟨_,hrun,⟨#[v,.bool (QiG (Qaf l d))],rfl,v,[.bool (QiG (Qaf l d))],rfl,hcell,_,[],rfl,⟨rfl,rfl⟩,rfl⟩,rfl,rfl⟩
       |false =>
         simp only [ok1,Option.some.injEq] at h
         subst h
         exact ⟨_,hrun,hcell,rfl,rfl⟩
      cases hfound with
      |none g1 g2 =>
        refine fin z false (fun w S=>by rw [g1];exact hz2 w S) (by rw [g1];rfl) ?_
        cases ok<;>simp [Instr.lookup,run_underlying hu,MapKept.run_getObj_map h2,hck,hf,hz1]
      |some j e v0 g1 g2 g3 g4 g5 =>
        refine fin e.val true (fun w S=>by rw [g3];exact g4 w S) (by rw [g3];rfl) ?_
        cases ok<;>simp [Instr.lookup,run_underlying hu,MapKept.run_getObj_map h2,hck,hf]
     ·cases h
    ·cases h
   ·cases h
  ·cases h
 ·cases h
theorem Qnl {w:World} {S:Nat→Prop}:∀ {l:List Int} {us:List Value},QB (CR w S (.int .u8)) l us→us=l.map (.int .u8)
 | [],_,h=>h
 |n :: l,_,⟨r,s,e,h1,h2⟩=>by
   have h1:r=[.int .u8 n]:=h1
   rw [e,h1,Qnl h2];rfl
theorem Qkh:∀ (ns:List Int) (s:ByteArray),ns.foldl (fun r n=>r.push (UInt8.ofNat n.toNat)) s=⟨s.data++(ns.map fun n=>UInt8.ofNat n.toNat).toArray⟩
 | [],s=>by simp
 |n :: ns,s=>by
   rw [List.foldl_cons,Qkh ns]
   congr 1
   apply Array.ext'
   simp [ByteArray.push]
theorem Qq4 {w:World} {S S':Nat→Prop} {l:List Int} {v:Value} (h:SlR w S (CR w S' (.int .u8)) l v):(QqB.bytesToString v).run P w=.ok (.string (QlN l)) w:=by
 obtain ⟨a,cap,rfl,hcap,hh⟩:=h
 cases a with
 |none =>
   cases l with
   |nil=>rfl
   |cons x l=>obtain ⟨ad,_,h,_⟩:=hh (by simp);cases h
 |some ad =>
   have key:∀ j (n:Int),l[j]?=some n→w.cell? (ad.add j)=some (.int .u8 n):=by
    intro j n hj
    have hne:l≠[]:=by intro e;subst e;simp at hj
    obtain ⟨ad',us,e,_,hl,hc⟩:=hh hne
    injection e with e
    subst e
    have:=Qnl hl
    subst this
    exact hc j _ (by simp [hj])
   have hload:=run_loadCells_list (P:=P) w ad (l.map (.int .u8)) (fun j v hv=>by
    rw [List.getElem?_map] at hv
    cases hj:l[j]? with
    |none=>rw [hj] at hv;cases hv
    |some n=>rw [hj] at hv;injection hv with hv;subst hv;exact key j n hj)
   rw [List.length_map] at hload
   rw [run_bytesToString w ad l.length cap l hload,Qkh]
   congr 3
   simp
def roE (E:Env) (w':World):Env:={ E with w:=w',S:=fun g=>E.S g∨g=E.w.heap.size }
theorem QaI.newRo {E:Env} {r:Res} {nm:Nat} {w':World} {o:Obj} (hH:Qt E) (hr1:r.add=[]) (hr2:r.set=[]) (hw:w'.heap=E.w.heap.push o) (h1:w'.os=E.w.os) (h2:w'.tape=E.w.tape) (h3:w'.output=E.w.output):QaI E r nm (roE E w'):=by
 have hext:Ext E (roE E w'):=by
  refine ⟨fun g hg=>⟨.inl hg,QbN hw (hH.st g hg)⟩,fun b hb=>hb,fun b x' hb hx=>⟨x',hx,rfl,rfl,fun g cs el hr hc=>⟨cs,?_,rfl⟩⟩⟩
  rw [show (roE E w').w=w' from rfl,QbN hw (Array.getElem?_eq_some_iff.1 hc).1]
  exact hc
 refine ⟨hext,⟨fun b x hx=>?_,fun b b' x x' g hx hx' hr hr'=>hH.inj b b' x x' g hx hx' hr hr',fun g hg=>?_⟩,fun b=>by rw [hr1,hr2];rfl,fun b=>by rw [hr1];simp [roE];omega,fun F h=>⟨h1.trans h.os,h2.trans h.tape,h3.trans h.output,?_,fun g hg ho=>?_,fun b x g hx hr=>h.own b x g hx hr,fun g hg=>?_⟩⟩
 ·obtain ⟨k1,k2,k3⟩:=hH.blk b x hx
  refine ⟨k1,k2.ext hext rfl (fun g hg=>QbN hw (QaG hH hx hg).1),fun g hg hs=>?_⟩
  rcases hs with hs |hs
  ·exact k3 g hg hs
  ·have:=(QaG hH hx hg).1
   omega
 ·rw [show (roE E w').w=w' from rfl,hw]
  rcases hg with hg |hg
  ·have:=hH.st g hg
   simp
   omega
  ·simp
   omega
 ·rw [show (roE E w').w=w' from rfl,hw]
  have:=h.size
  simp
  omega
 ·rw [show (roE E w').w=w' from rfl,QbN hw (by have:=h.size;omega)]
  exact h.old g hg ho
 ·rcases hg with hg |hg
  ·exact h.S g hg
  ·have:=h.size
   exact .inr (.inl (by omega))
theorem Qki {E:Env} (hH:Qt E) {s d e:TypeId} (t:ByteArray) {nm:Nat} (hs:P.underlying s=some .string) (hd:P.underlying d=some (.slice e)) (he:P.underlying e=some (.int .u8)) :
 ∃ v E',(convert s d (.string t)).run P E.w=.ok v E'.w∧QaI E { pre:=none,val:=.cell (.ro (.int .u8) (bytesOf t)),add:=[],set:=[] } nm E'∧AVR E' (.cell (.ro (.int .u8) (bytesOf t))) v:=by
 refine ⟨_,roE E _,run_bytes_of_string E.w s d e t hs hd he,QaI.newRo hH rfl rfl rfl rfl rfl rfl,?_⟩
 refine ⟨_,rfl,some ⟨E.w.heap.size,0,none⟩,grownCap E.w t.size 0 e,by simp [bytesOf],?_,fun hne=>?_⟩
 ·have:t.size≤grownCap E.w t.size 0 e:=grownCap_ge E.w t.size 0 e
  simpa [bytesOf] using this
 ·refine ⟨_,_,rfl,.inr rfl,Qeq t.data.toList,fun k u hk=>?_⟩
  rw [Qbd,Nat.zero_add]
  have hb:(E.w.drew).heap.size=E.w.heap.size:=rfl
  have:=World.cell?_alloc_mark E.w.drew (bytesRow t (grownCap E.w t.size 0 e)) e ((bytesRow t (grownCap E.w t.size 0 e)).size,(bytesRow t (grownCap E.w t.size 0 e)).size+1) k
  rw [hb] at this
  refine this.trans ?_
  unfold bytesRow
  have hlt:=(List.getElem?_eq_some_iff.1 hk).1
  rw [List.length_map] at hlt
  rw [Array.getElem?_append_left (by simpa using hlt)]
  rw [List.getElem?_map] at hk
  rw [Array.getElem?_map]
  simpa using hk
end
section
variable {P:Program} {T:Tab}
theorem Qnm {E:Env}:∀ {xs:List AV} {ys:List V1} {vs:List Value},ones xs=some ys→QhL E xs vs→VsR E ys vs
 | [],ys,vs,h,hr=>by
   simp only [ones,Option.some.injEq] at h
   subst h
   exact hr
 |.dead :: xs,ys,vs,h,_=>by simp [ones] at h
 |.tup _ :: xs,ys,vs,h,_=>by simp [ones] at h
 |.one x :: xs,ys,_,h,⟨v,r,e,h1,h2⟩=>by
   subst e
   unfold ones at h
   cases h3:ones xs with
   |none=>rw [h3] at h;cases h
   |some ys' =>
     rw [h3] at h
     injection h with h
     subst h
     exact ⟨v,r,rfl,h1,Qnm h3 h2⟩
theorem QhM {E:Env} (hH:Qt E) {look:Nat→Option Blk} (hl:∀ b x,look b=some x→E.H b=some x) {f:FuncId} {s:Qcm} (hs:CSound P f s) {args:List V1} {vs:Array Value} {nm:Nat} {r:Res} (ha:VsR E args vs.toList) (h:QiH look nm s args=some r) (hp:∀ p,r.pre=some p→p)
 (hnm:∀ k,k < r.add.length→¬ E.U (nm+k)):Calls P f vs E.w fun e w'=>∃ v E',e=.returned v∧E'.w=w'∧QaI E r nm E'∧AVR E' r.val v:=by
 unfold QiH at h
 cases hw:s.wr with
 |false =>
   rw [hw] at h
   simp only at h
   cases hv:QeB (QeK look) args with
   |none=>rw [hv] at h;cases h
   |some xs =>
     rw [hv] at h
     simp only at h
     split at h
     ·rename_i p rv fresh hrun
      split at h
      ·split at h
       ·simp only [Option.some.injEq] at h
        subst h
        have hrel:=Qft (us:=args.flatMap (·.names)) hH hl (fun n hn=>hn) hv ha
        refine (hs (Qdx E (args.flatMap (·.names))) vs xs [] p rv [] fresh (fun b=>rfl) (fun b=>by simp [Qdx]) (Qne hH _) hrel hrun (fun q hq=>hp q hq)).mono ?_
        rintro e w' ⟨v,E',rfl,rfl,hb⟩
        obtain ⟨E'',h1,h2,h3⟩:=QuW (p:=p) hH (fun k hk=>hnm k (by simpa using hk)) hb
        exact ⟨v,E'',rfl,h1,h2,h3⟩
       ·cases h
      ·rename_i hc
       simp only [Option.some.injEq] at h
       subst h
       have hrel:=Qft (us:=args.flatMap (·.names)) hH hl (fun n hn=>hn) hv ha
       refine (hs (Qdx E (args.flatMap (·.names))) vs xs [] p rv [] fresh (fun b=>rfl) (fun b=>by simp [Qdx]) (Qne hH _) hrel hrun (fun q hq=>hp q hq)).mono ?_
       rintro e w' ⟨v,E',rfl,rfl,hb⟩
       have hro:args.flatMap (·.names)=[]∨(rv.hasRo=false∧∀ b ∈ fresh,b.plain=true):=by
        rw [Bool.and_eq_false_iff] at hc
        rcases hc with hc |hc
        ·right
         simp at hc
         exact ⟨hc.1,fun b hb=>hc.2 b hb⟩
        ·exact .inl (QfV hv hc)
       obtain ⟨E'',h1,h2,h3⟩:=Qkd (p:=p) hH (fun k hk=>hnm k (by simpa using hk)) hb hro
       exact ⟨v,E'',rfl,h1,h2,h3⟩
     ·cases h
 |true =>
   rw [hw] at h
   simp only at h
   cases hr:reach look 100 (args.flatMap (·.names)) [] with
   |none=>rw [hr] at h;cases h
   |some acc =>
     rw [hr] at h
     simp only at h
     cases hm:QeB look acc with
     |none=>rw [hm] at h;cases h
     |some bl =>
       rw [hm] at h
       simp only at h
       split at h
       ·rename_i p rv upd fresh hrun
        split at h
        ·rename_i hul
         simp only [Option.some.injEq] at h
         subst h
         have hul:=Nat.eq_of_beq_eq_true hul
         obtain ⟨hn,hmem,_,hcl⟩:=QiR 100 _ [] acc (by simp) hr
         obtain ⟨hlen,hget⟩:=Qdw hm
         have hbl:∀ (i b:Nat),acc[i]?=some b→∃ x,E.H b=some x∧(bl.map (·.rn (idx acc)))[i]?=some (x.rn (idx acc))∧∀ n ∈ x.names,n ∈ acc:=by
          intro i b hb
          obtain ⟨x,h1,h2⟩:=hget i b hb
          refine ⟨x,hl _ _ h1,by simp [h2],fun n hnx=>?_⟩
          rcases hcl b (List.mem_of_getElem? hb) with h3 |⟨y,h3,h4⟩
          ·simp at h3
          ·rw [h1] at h3
           injection h3 with h3
           subst h3
           exact h4 n hnx
         have hbl':∀ (i b:Nat),acc[i]?=some b→∃ x,E.H b=some x∧(bl.map (·.rn (idx acc)))[i]?=some (x.rn (idx acc)):=fun i b h=>let ⟨x,h1,h2,_⟩:=hbl i b h;⟨x,h1,h2⟩
         have hlen':(bl.map (·.rn (idx acc))).length=acc.length:=by simpa using hlen
         have hrel:VsR (Qea E acc (bl.map (·.rn (idx acc)))) (args.map (·.rn (idx acc))) vs.toList :=
          VsR.rn (E:=E) (E':=Qea E acc (bl.map (·.rn (idx acc)))) (f:=idx acc) rfl (.inl fun _ h=>h) (fun i hi=>Qnh hH hn hlen' hbl' (hmem i hi)) ha
         refine (hs (Qea E acc (bl.map (·.rn (idx acc)))) vs _ _ p rv upd fresh (fun b=>rfl) (fun b=>Iff.rfl) (QuX hH hn hlen' hbl) hrel hrun (fun q hq=>hp q hq)).mono ?_
         rintro e w' ⟨v,E',rfl,rfl,hb⟩
         obtain ⟨E'',h1,h2,h3⟩:=Qph (p:=p) hH hn hlen' (by omega) hbl' (fun k hk=>hnm k (by simpa using hk)) hb (fun i=>match acc[i]? with |some b=>b |none=>nm+(i-acc.length)) (fun i=>rfl)
         exact ⟨v,E'',rfl,h1,h2,h3⟩
        ·cases h
       ·cases h
theorem QfX {E:Env} (hP:Qe P T) (hH:Qt E) {look:Nat→Option Blk} (hl:∀ b x,look b=some x→E.H b=some x) {f:FuncId} {args:List AV} {vs:Array Value} {nm:Nat} {r:Res} (ha:QhL E args vs.toList) (h:Qm3 T look nm f args=some r) (hp:∀ p,r.pre=some p→p)
 (hnm:∀ k,k < r.add.length→¬ E.U (nm+k)):Enters P f∧Calls P f vs E.w fun e w'=>∃ v E',e=.returned v∧E'.w=w'∧QaI E r nm E'∧AVR E' r.val v:=by
 unfold Qm3 at h
 cases hs:T.fn f with
 |none=>rw [hs] at h;cases h
 |some s =>
   rw [hs] at h
   simp only at h
   cases ho:ones args with
   |none=>rw [ho] at h;cases h
   |some xs =>
     rw [ho] at h
     exact ⟨(hP f s hs).2,QhM hH hl (hP f s hs).1 (Qnm ho ha) h hp hnm⟩
theorem QfY {f:FuncId} (h:Enters P f) (vs:Array Value) (w:World):(callFunc f vs).run P w=.ok (.enter f vs) w:=by
 obtain ⟨fn,h1,h2,h3⟩:=h
 have h2':¬ fn.name= "runtime.NumGoroutine":=by simpa using h2
 have h4:¬ fn.body=none:=by
  intro e
  rw [e] at h3
  cases h3
 simp [callFunc,h1,h2',h4]
theorem QhL.append {E:Env}:∀ {xs ys:List AV} {vs us:List Value},QhL E xs vs→QhL E ys us→QhL E (xs++ys) (vs++us)
 | [],_,_,_,h,h'=>by simp only [QhL] at h;subst h;exact h'
 |_ :: _,_,_,_,⟨v,r,e,h1,h2⟩,h'=>by subst e;exact ⟨v,r++_,rfl,h1,h2.append h'⟩
theorem QiS {E:Env} {ev:Operand→AV} {ρ:Operand→Value} (hev:∀ x,AVR E (ev x) (ρ x)):∀ (l:List Operand),QhL E (l.map ev) (l.map ρ)
 | []=>rfl
 |x :: l=>⟨ρ x,l.map ρ,rfl,hev x,QiS hev l⟩
theorem Qq5 {E:Env} {ev:Operand→AV} {ρ:Operand→Value} (hev:∀ x,AVR E (ev x) (ρ x)):∀ (l:List (Nat × Operand)),PsR E (l.map fun (i,x)=>(i,ev x)) (l.map fun (i,x)=>(i,ρ x))
 | []=>rfl
 |(i,x) :: l=>⟨ρ x,_,rfl,hev x,Qq5 hev l⟩
theorem Qnn {E:Env}:∀ (bs:List Nat) (caps:List Value),caps.length=bs.length→(∀ (i b:Nat),bs[i]?=some b→∃ u,caps[i]?=some u∧u.oneCell'=true∧E.U b∧∀ cs,E.H b=some (.var cs)→∃ g,E.ρ b=some g∧u=pt g 0)→QhL E (bs.map fun b=>.cell (.ptr b 0)) caps
 | [],caps,h,_=>List.eq_nil_of_length_eq_zero h
 |b :: bs,[],h,_=>by simp at h
 |b :: bs,u :: caps,h,hh=>by
   obtain ⟨u',h1,h2,h3,h4⟩:=hh 0 b rfl
   simp at h1
   subst h1
   exact ⟨u,caps,rfl,⟨u,⟨rfl,h2⟩,h3,h4⟩,Qnn bs caps (by simpa using h) fun i b hb=>hh (i+1) b (by simpa using hb)⟩
theorem Qfv {E:Env} {ev:Operand→AV} {ρ:Operand→Value} (hev:∀ x,AVR E (ev x) (ρ x)) (o:Option Operand):Qh5 E (o.map ev) (o.map ρ):=by
 cases o with
 |none=>trivial
 |some x=>exact hev x
theorem Qu0 {E:Env} {c a b:AV} {vc va vb:Value} {r:Res} (hc:AVR E c vc) (ha:AVR E a va) (hb:AVR E b vb) (h:Qy2 c a b=some r) (w:World) :
 ∃ v,(do pure (.value (if ← asBool vc then va else vb)):Sem Next).run P w=.ok (.value v) w∧AVR E r.val v∧r.add=[]∧r.set=[]:=by
 unfold Qy2 at h
 split at h
 ·rename_i t
  obtain ⟨e,_⟩:=hc
  injection e with e
  subst e
  split at h
  ·simp only [ok1,Option.some.injEq] at h
   subst h
   obtain ⟨e,_⟩:=ha
   injection e with e
   subst e
   obtain ⟨e,_⟩:=hb
   injection e with e
   subst e
   refine ⟨_,by simp [asBool];rfl,?_,rfl,rfl⟩
   cases t<;>exact ⟨rfl,rfl⟩
  ·cases t with
   |true =>
     simp only at h
     split at h
     ·cases h
     ·simp only [ok1,Option.some.injEq] at h
      subst h
      exact ⟨va,by simp [asBool],ha,rfl,rfl⟩
   |false =>
     simp only at h
     split at h
     ·cases h
     ·simp only [ok1,Option.some.injEq] at h
      subst h
      exact ⟨vb,by simp [asBool],hb,rfl,rfl⟩
 ·cases h
theorem Qno (hT:Qae P T) {t:TypeId} {ti:TI} (h:T.ty t=some ti):∃ d,P.underlying t=some d:=by
 have:=(hT.ty t ti h).und
 cases hd:ti.desc<;>rw [hd] at this<;>simp only [QY] at this
 case struct=>obtain ⟨F,h1,_⟩:=this;exact ⟨_,h1⟩
 case iface=>obtain ⟨F,h1⟩:=this;exact ⟨_,h1⟩
 case other=>obtain ⟨d,h1,_⟩:=this;exact ⟨d,h1⟩
 all_goals exact ⟨_,this⟩
theorem Qkj {x:AV} {b:Nat} (h:Qh3 x=some b):x=.cell (.ptr b 0):=by
 unfold Qh3 at h
 split at h
 ·injection h with h
  subst h
  rfl
 ·cases h
theorem VsR.get {E:Env}:∀ {xs:List V1} {vs:List Value} {i:Nat} {x:V1},VsR E xs vs→xs[i]?=some x→∃ v,vs[i]?=some v∧V1R E x v
 | [],_,i,x,_,h=>by simp at h
 |y :: ys,_,0,x,⟨v,r,e,h1,h2⟩,h=>by subst e;simp at h;subst h;exact ⟨v,rfl,h1⟩
 |y :: ys,_,i+1,x,⟨v,r,e,h1,h2⟩,h=>by subst e;simpa using h2.get (by simpa using h)
theorem Qzd {E:Env} {look:Nat→Option Blk} (hT:Qae P T) (hH:Qt E) (hl:∀ b x,look b=some x→E.H b=some x) {t ty:TypeId} {tys:Array TypeId} {x:AV} {v:Value} {n:Int} (hx:AVR E x v) (h:QD7 T look t x=some n) (ht:tys[0]?=some t) :
 (Builtin.len_ tys ty #[v]).run P E.w=.ok (.int .i64 n) E.w:=by
 unfold QD7 at h
 split at h
 ·rename_i hty
  have hu:=(hT.ty t _ hty).und
  simp only [QY] at hu
  split at h
  ·injection h with h
   subst h
   obtain ⟨e,_⟩:=hx
   injection e with e
   subst e
   simp [Builtin.len_,ht,run_underlying hu,goInt]
  ·cases h
 ·rename_i hty
  have hu:=(hT.ty t _ hty).und
  simp only [QY] at hu
  split at h
  ·injection h with h
   subst h
   obtain ⟨e,_⟩:=hx
   injection e with e
   subst e
   simp [Builtin.len_,ht,run_underlying hu,goInt]
  ·split at h
   ·rename_i hb
    injection h with h
    subst h
    obtain ⟨v',⟨e,_⟩,hU,hh⟩:=hx
    injection e with e
    subst e
    obtain ⟨g,cap,_,rfl,_⟩:=hh _ (hl _ _ hb)
    simp [Builtin.len_,ht,run_underlying hu,goInt]
   ·cases h
  ·split at h
   ·rename_i hs
    injection h with h
    subst h
    obtain ⟨a,cap,rfl,_⟩:=QbU hH hl hs hx
    simp [Builtin.len_,ht,run_underlying hu,goInt]
   ·cases h
  ·cases h
 ·cases h
theorem Qu1 {E:Env} {xs:List AV} {vs:List Value} {r:AV} (hv:QhL E xs vs) (h:QD8 xs=some r) (w:World) {tys:Array TypeId} {ty:TypeId}:∃ v,(Builtin.max_ tys ty vs.toArray).run P w=.ok v w∧AVR E r v:=by
 unfold QD8 at h
 split at h
 ·obtain ⟨v,vs',rfl,hx,hv⟩:=hv
  obtain ⟨e,_⟩:=hx
  injection e with e
  subst e
  obtain ⟨v',h1,h2⟩:=Qnc (P:=P) hv h w
  exact ⟨v',by simpa [Builtin.max_] using h1,h2⟩
 ·cases h
theorem Qu2 {E:Env} {xs:List AV} {vs:List Value} {r:AV} (hv:QhL E xs vs) (h:QD9 xs=some r) (w:World) {tys:Array TypeId} {ty:TypeId}:∃ v,(Builtin.min_ tys ty vs.toArray).run P w=.ok v w∧AVR E r v:=by
 unfold QD9 at h
 split at h
 ·obtain ⟨v,vs',rfl,hx,hv⟩:=hv
  obtain ⟨e,_⟩:=hx
  injection e with e
  subst e
  obtain ⟨v',h1,h2⟩:=Qnd (P:=P) hv h w
  exact ⟨v',by simpa [Builtin.min_] using h1,h2⟩
 ·cases h
theorem QgM (hT:Qae P T) (hP:Qe P T) {E:Env} (hH:Qt E) {a:Act} {ev:Operand→AV} (hev:∀ x,AVR E (ev x) (a.eval x)) {look:Nat→Option Blk} (hl:∀ b x,look b=some x→E.H b=some x) {nm:Nat} {o:Oper} {r:Res}
 (h:dstep T ev look nm o=some r) (hp:∀ p,r.pre=some p→p) (hnm:∀ k,k < r.add.length→¬ E.U (nm+k)) {next:Act→World→Prop} {Q:Exit→Act→World→Prop}
 (hn:∀ E' v,QaI E r nm E'→AVR E' r.val v→next (a.put o.dst v) E'.w):o.wp P a E.w next Q:=by
 obtain ⟨dst,op,type,pos,after,guard⟩:=o
 have val:∀ v,(execOp a.eval ⟨dst,op,type,pos,after,guard⟩).run P E.w=.ok (.value v) E.w→AVR E r.val v→r.add=[]→r.set=[]→Oper.wp P ⟨dst,op,type,pos,after,guard⟩ a E.w next Q:=fun v hr hv h1 h2=>Qa6 hr (hn E v (QaI.same hH h1 h2) hv)
 have vl:∀ (s:Sem Value) v w',s.run P E.w=.ok v w'→(do pure (.value (← s)):Sem Next).run P E.w=.ok (.value v) w':=fun s v w' hs=>by simp [hs]
 cases op<;>simp only [dstep] at h
 case move x =>
  have hx:=hev x
  split at h
  ·cases h
  ·rename_i y hy
   simp only [ok1,Option.some.injEq] at h
   subst h
   exact val _ rfl hx rfl rfl
 case assign x =>
  have hx:=hev x
  split at h
  ·cases h
  ·rename_i y hy
   simp only [ok1,Option.some.injEq] at h
   subst h
   exact val _ rfl hx rfl rfl
 case pick c x y =>
  obtain ⟨v,h1,h2,h3,h4⟩:=Qu0 (P:=P) (hev c) (hev x) (hev y) h E.w
  exact val v (by simpa [execOp] using h1) h2 h3 h4
 case alloc t =>
  cases ht:T.ty t with
  |none=>rw [ht] at h;cases h
  |some ti =>
    rw [ht] at h
    simp only [Option.some.injEq] at h
    subst h
    obtain ⟨E',h1,h2,h3⟩:=QqV hT hH ht (nm:=nm) (by simpa using hnm 0 (by simp))
    exact Qa6 (vl _ _ _ h1) (hn E' _ h2 h3)
 case box t x =>
  have hx:=hev x
  split at h
  ·rename_i y hy
   simp only [Option.some.injEq] at h
   subst h
   rw [hy] at hx
   obtain ⟨E',h1,h2,h3⟩:=Qy8 (P:=P) hH t (x:=y) hx (nm:=nm) (by simpa using hnm 0 (by simp))
   exact Qa6 (vl _ _ _ h1) (hn E' _ h2 h3)
  ·cases h
 case build t ps =>
  obtain ⟨v,h1,h2,h3,h4,_⟩:=Qq1 (E:=E) (vs:=ps.map fun (i,x)=>(i,a.eval x)) hT (by simpa using Qq5 hev ps.toList) h
  exact val v (vl _ _ _ h1) h2 h3 h4
 case buildSlice t n ps =>
  have hnew:r.add.length=1:=by
   unfold Qc1 at h
   split at h
   ·split at h
    ·split at h
     ·simp only [Option.some.injEq] at h;subst h;rfl
     ·split at h
      ·simp only [Option.some.injEq] at h;subst h;rfl
      ·cases h
    ·cases h
   ·unfold QeJ at h
    repeat' split at h
    all_goals first
     |(simp only [Option.some.injEq] at h;subst h;rfl)
     |cases h
  obtain ⟨v,E',h1,h2,h3⟩:=QhK (vs:=ps.map fun (i,x)=>(i,a.eval x)) hT hH hl (by simpa using hnm 0 (by omega)) (by simpa using Qq5 hev ps.toList) h
  exact Qa6 (vl _ _ _ h1) (hn E' _ h2 h3)
 case load t x =>
  obtain ⟨v,h1,h2,h3,h4⟩:=Qm8 hT hH hl (hev x) h hp
  exact val v (vl _ _ _ h1) h2 h3 h4
 case store t x y =>
  obtain ⟨E',h1,h2,h3⟩:=QqU (nm:=nm) hT hH hl (hev x) (hev y) h hp
  exact QlW (by simp [execOp,h1]) (hn E' _ h2 (by rw [h3];trivial))
 case nilCheck x =>
  have hx:=hev x
  split at h
  ·rename_i b j hy
   split at h
   ·rename_i cs hb
    simp only [ok1,Option.some.injEq] at h
    subst h
    rw [hy] at hx
    have hbx:=hl _ _ hb
    have hx0:=hx
    obtain ⟨v,⟨e,_⟩,hU,hh⟩:=hx
    injection e with e
    obtain ⟨g,hr,hv⟩:=hh _ hbx
    refine val (a.eval x) ?_ hx0 rfl rfl
    rw [e,hv]
    simp only [execOp,e,hv,pt]
    rfl
   ·cases h
  ·rename_i f cs hy
   simp only [ok1,Option.some.injEq] at h
   subst h
   rw [hy] at hx
   have hx0:=hx
   obtain ⟨caps,e,_⟩:=hx
   injection e with e
   refine val (a.eval x) ?_ hx0 rfl rfl
   rw [e]
   simp only [execOp,e]
   rfl
  ·cases h
 case binOp op t x y ty =>
  cases hq:QiD T look t op (ev x) (ev y) with
  |some r' =>
    rw [hq] at h
    injection h with h
    subst h
    obtain ⟨v,h1,h2,h3,h4⟩:=Qpe (P:=P) hT hl (hev x) (hev y) hq x y E.w
    exact val v (vl _ _ _ h1) h2 h3 h4
  |none =>
  rw [hq] at h
  simp only at h
  obtain ⟨v,h1,h2,h3,h4⟩:=Qzb (P:=P) hT hH (hev x) (hev y) h hp x y E.w
  exact val v (vl _ _ _ h1) h2 h3 h4
 case unOp op t x =>
  obtain ⟨v,h1,h2,h3,h4,_⟩:=QBG (P:=P) (hev x) h E.w
  exact val v (vl _ _ _ h1) h2 h3 h4
 case convert s d x =>
  have hx:=hev x
  split at h
  ·rename_i ts k n hs hd hy
   simp only [ok1,Option.some.injEq] at h
   subst h
   rw [hy] at hx
   obtain ⟨e,_⟩:=hx
   injection e with e
   have hd':=(hT.ty d _ hd).und
   simp only [QY] at hd'
   obtain ⟨ds,hds⟩:=Qno hT hs
   exact val _ (vl _ _ _ (by rw [e];simp [convert,run_underlying hds,run_underlying hd',QqB.intToInt])) ⟨rfl,rfl⟩ rfl rfl
  ·rename_i ts t hs hd hy
   simp only [ok1,Option.some.injEq] at h
   subst h
   rw [hy] at hx
   obtain ⟨e,_⟩:=hx
   injection e with e
   have hd':=(hT.ty d _ hd).und
   simp only [QY] at hd'
   obtain ⟨ds,hds⟩:=Qno hT hs
   exact val (.string t) (vl _ _ _ (by rw [e];simp [convert,run_underlying hds,run_underlying hd'])) ⟨rfl,rfl⟩ rfl rfl
  ·rename_i c hni hs hd hy
   split at h
   ·rename_i he
    split at h
    ·rename_i l hsl
     simp only [ok1,Option.some.injEq] at h
     subst h
     rw [hy] at hx
     have hd':=(hT.ty d _ hd).und
     simp only [QY] at hd'
     have hs':=(hT.ty s _ hs).und
     simp only [QY] at hs'
     have he':=(hT.ty _ _ he).und
     simp only [QY] at he'
     have hsl:=QiK hH hl hsl hx
     refine val _ (vl _ _ _ ?_) ⟨rfl,rfl⟩ rfl rfl
     have hb:=Qq4 (P:=P) (w:=E.w) hsl
     obtain ⟨ad,cap,e,_⟩:=hsl
     rw [e] at hb ⊢
     rw [run_convert_bytes_string E.w s d _ _ _ _ hs' he' hd',hb]
    ·cases h
   ·cases h
  ·rename_i t hs hd hy
   split at h
   ·rename_i he
    simp only [ok1,Option.some.injEq] at h
    subst h
    rw [hy] at hx
    obtain ⟨e,_⟩:=hx
    injection e with e
    have hd':=(hT.ty d _ hd).und
    simp only [QY] at hd'
    have hs':=(hT.ty s _ hs).und
    simp only [QY] at hs'
    have he':=(hT.ty _ _ he).und
    simp only [QY] at he'
    obtain ⟨v,E',h1,h2,h3⟩:=Qki (P:=P) (nm:=nm) hH t hs' hd' he'
    exact Qa6 (vl _ _ _ (by rw [e];exact h1)) (hn E' _ h2 h3)
   ·cases h
  ·cases h
 case makeMap t rv =>
  cases rv with
  |some _=>cases h
  |none =>
    simp only at h
    split at h
    ·rename_i ka kt vt hi
     simp only [Option.some.injEq] at h
     subst h
     obtain ⟨E',h1,h2,h3⟩:=Ql0 (P:=P) hH (t:=t) (ka:=ka) (kt:=kt) (vt:=vt) (nm:=nm) (by simpa using hnm 0 (by simp))
     exact Qa6 (vl _ _ _ h1) (hn E' _ h2 h3)
    ·cases h
 case mapUpdate t m k x =>
  obtain ⟨E',h1,h2,h3⟩:=Qh9 (nm:=nm) hT hH hl (hev m) (hev k) (hev x) h
  exact QlW (by simp [execOp,h1]) (hn E' _ h2 (by rw [h3];trivial))
 case insert t m k x =>
  obtain ⟨E',h1,h2,h3⟩:=Qh9 (nm:=nm) hT hH hl (hev m) (hev k) (hev x) h
  exact QlW (by simp [execOp,h1]) (hn E' _ h2 (by rw [h3];trivial))
 case lookup t m k ok =>
  obtain ⟨v,h1,h2,h3,h4⟩:=Qpk hT hH hl (hev m) (hev k) h
  exact val v (vl _ _ _ h1) h2 h3 h4
 case makeInterface t x =>
  have hx:=hev x
  split at h
  ·rename_i et ht
   cases hb:Qh3 (ev x) with
   |none=>rw [hb] at h;cases h
   |some b =>
     rw [hb] at h
     simp only [ok1,Option.some.injEq] at h
     subst h
     rw [Qkj hb] at hx
     obtain ⟨v,⟨e,h1⟩,hU,hh⟩:=hx
     injection e with e
     have hu:=(hT.ty t _ ht).und
     simp only [QY] at hu
     refine val (.iface t (a.eval x)) (vl _ _ _ (by simp [Instr.makeInterface,run_underlying hu])) ⟨v,⟨by rw [e],h1⟩,hU,hh⟩ rfl rfl
  ·cases h
 case makeFunc f fs cs =>
  cases f with
  |func f =>
    simp only at h
    split at h
    ·rename_i hz
     have hz:=Nat.eq_of_beq_eq_true hz
     have hfs:fs=#[]:=Array.eq_empty_of_size_eq_zero hz
     subst hfs
     cases hm:QeB (fun x=>Qh3 (ev x)) cs.toList with
     |none=>rw [hm] at h;cases h
     |some bs =>
       rw [hm] at h
       simp only [ok1,Option.some.injEq] at h
       subst h
       obtain ⟨hlen,hget⟩:=Qdw hm
       refine val (.func (.func f) #[] (cs.map a.eval)) (by simp [execOp,Instr.makeFunc]) ⟨cs.map a.eval,rfl,by simpa using hlen.symm,fun i b hb=>?_⟩ rfl rfl
       have hi:i < cs.toList.length:=by rw [← hlen];exact (List.getElem?_eq_some_iff.1 hb).1
       obtain ⟨y,h1,h2⟩:=hget i cs.toList[i] (List.getElem?_eq_getElem hi)
       rw [hb] at h2
       injection h2 with h2
       subst h2
       have hx:=hev cs.toList[i]
       rw [Qkj h1] at hx
       obtain ⟨v,⟨e,h3⟩,hU,hh⟩:=hx
       injection e with e
       refine ⟨v,?_,h3,hU,hh⟩
       have hi':i < cs.size:=by simpa using hi
       simp at e
       simp [hi',e]
    ·cases h
  |_=>cases h
 case makeSlice t l c =>
  have hnew:r.add.length=1:=by
   unfold QdQ at h
   split at h
   ·simp only [Option.some.injEq] at h;subst h;rfl
   ·cases h
  obtain ⟨v,E',h1,h2,h3⟩:=QiM hT hH (by simpa using hnm 0 (by omega)) (hev l) (hev c) h hp
  exact Qa6 (vl _ _ _ h1) (hn E' _ h2 h3)
 case slice t x lo hi mx =>
  cases hq:cutA T look nm t (ev x) (lo.map ev) (hi.map ev) (mx.map ev) with
  |some r' =>
    rw [hq] at h
    injection h with h
    subst h
    have hnew:r'.add.length=1:=by
     unfold cutA at hq
     split at hq
     ·split at hq
      ·split at hq
       ·split at hq
        ·split at hq
         ·simp only [Option.some.injEq] at hq;subst hq;rfl
         ·cases hq
        ·cases hq
       ·cases hq
      ·cases hq
     ·cases hq
    obtain ⟨v,E',h1,h2,h3⟩:=Qza hT hH hl (by simpa using hnm 0 (by omega)) (hev x) (Qfv hev lo) (Qfv hev hi) (Qfv hev mx) hq hp
    exact Qa6 (vl _ _ _ h1) (hn E' _ h2 h3)
  |none =>
  rw [hq] at h
  simp only at h
  obtain ⟨v,h1,h2,h3,h4⟩:=QqW hT hH hl (hev x) (Qfv hev lo) (Qfv hev hi) (Qfv hev mx) h hp
  exact val v (vl _ _ _ h1) h2 h3 h4
 case fieldAddr s x f =>
  obtain ⟨v,h1,h2,h3,h4⟩:=QiP hT hl (hev x) h hp
  exact val v (vl _ _ _ h1) h2 h3 h4
 case field t x f =>
  obtain ⟨v,h1,h2,h3,h4,_⟩:=QqX (P:=P) hT (hev x) h
  exact val v (vl _ _ _ h1) h2 h3 h4
 case indexAddr t x i =>
  obtain ⟨v,h1,h2,h3,h4⟩:=QiO hT hH hl (hev x) (hev i) h hp
  exact val v (vl _ _ _ h1) h2 h3 h4
 case index t x i =>
  obtain ⟨v,h1,h2,h3,h4⟩:=QqY (P:=P) hT (hev x) (hev i) h hp
  exact val v (vl _ _ _ h1) h2 h3 h4
 case extract t i =>
  have hx:=hev t
  split at h
  ·rename_i l hy
   cases hi:l[i]? with
   |none=>rw [hi] at h;cases h
   |some y =>
     rw [hi] at h
     simp only [ok1,Option.some.injEq] at h
     subst h
     rw [hy] at hx
     obtain ⟨vs,e,hvs⟩:=hx
     obtain ⟨v,h1,h2⟩:=VsR.get hvs hi
     refine val v (vl _ _ _ (by rw [e];simp [Instr.extract];rw [← Array.getElem?_toList,h1];rfl)) h2 rfl rfl
  ·cases h
 case call c =>
  obtain ⟨callee,args,argTypes⟩:=c
  cases callee with
  |builtin b =>
    simp only at h
    have hargs:=QiS (E:=E) hev args.toList
    unfold Qm1 at h
    split at h
    ·
     rename_i x t tl hal htl
     cases hn':QD7 T look t x with
     |none=>rw [hn'] at h;cases h
     |some n =>
       rw [hn'] at h
       simp only [ok1,Option.some.injEq] at h
       subst h
       rw [hal] at hargs
       obtain ⟨v,r',e,hx,hr'⟩:=hargs
       simp only [QhL] at hr'
       subst hr'
       refine val (.int .i64 n) ?_ ⟨rfl,rfl⟩ rfl rfl
       have hav:args.map a.eval=#[v]:=by apply Array.ext';simpa using e
       have ht0:argTypes[0]?=some t:=by rw [← Array.getElem?_toList,htl];rfl
       have hlen:=Qzd (P:=P) hT hH hl hx hn' (ty:=type) ht0
       simp [execOp,resolve,hav,invoke,builtin,hlen]
    ·rename_i hal htl
     cases hm:QD8 (args.toList.map ev) with
     |none=>rw [hm] at h;cases h
     |some v =>
       rw [hm] at h
       simp only [ok1,Option.some.injEq] at h
       subst h
       obtain ⟨v',h1,h2⟩:=Qu1 (P:=P) hargs hm E.w (tys:=argTypes) (ty:=type)
       refine val v' ?_ h2 rfl rfl
       have hav:args.map a.eval=(args.toList.map a.eval).toArray:=by apply Array.ext';simp
       simp only [execOp,resolve,hav]
       simp [invoke,builtin,h1]
    ·rename_i hal htl
     cases hm:QD9 (args.toList.map ev) with
     |none=>rw [hm] at h;cases h
     |some v =>
       rw [hm] at h
       simp only [ok1,Option.some.injEq] at h
       subst h
       obtain ⟨v',h1,h2⟩:=Qu2 (P:=P) hargs hm E.w (tys:=argTypes) (ty:=type)
       refine val v' ?_ h2 rfl rfl
       have hav:args.map a.eval=(args.toList.map a.eval).toArray:=by apply Array.ext';simp
       simp only [execOp,resolve,hav]
       simp [invoke,builtin,h1]
    ·
     rename_i s x t t' hal htl
     rw [hal] at hargs
     obtain ⟨vs,r',e,hs,vx,r'',e',hx,hr''⟩:=hargs
     simp only [QhL] at hr''
     subst hr'' e'
     have hav:args.map a.eval=#[vs,vx]:=by apply Array.ext';simpa using e
     have hat:argTypes=#[t,t']:=by apply Array.ext';simpa using htl
     have hnew:r.add.length=1:=by
      unfold QiE at h
      split at h
      ·split at h
       ·cases h
       ·split at h
        ·split at h
         ·simp only [Option.some.injEq] at h;subst h;rfl
         ·split at h
          ·split at h
           ·simp only [Option.some.injEq] at h;subst h;rfl
           ·cases h
          ·cases h
         ·cases h
        ·cases h
      ·cases h
     obtain ⟨v,E',h1,h2,h3⟩:=Qpd (ty:=type) hT hH hl (by simpa using hnm 0 (by omega)) hs hx h hp
     refine Qa6 ?_ (hn E' _ h2 h3)
     simp [execOp,resolve,hav,hat,invoke,builtin,h1]
    ·
     rename_i s x t tl hal htl
     rw [hal] at hargs
     obtain ⟨vs,r',e,hs,vx,r'',e',hx,hr''⟩:=hargs
     simp only [QhL] at hr''
     subst hr'' e'
     have hav:args.map a.eval=#[vs,vx]:=by apply Array.ext';simpa using e
     have ht0:argTypes[0]?=some t:=by rw [← Array.getElem?_toList,htl];rfl
     obtain ⟨v,E',h1,h2,h3⟩:=QuU (ty:=type) (nm:=nm) hT hH hl hs hx ht0 h hp
     refine Qa6 ?_ (hn E' _ h2 h3)
     simp [execOp,resolve,hav,invoke,builtin,h1]
    ·cases h
  |value f =>
    simp only at h
    have hf:=hev f
    split at h
    ·rename_i g caps hy
     rw [hy] at hf
     obtain ⟨cv,e,hcl,hcap⟩:=hf
     injection e with e
     have hargs:QhL E (args.toList.map ev++caps.map fun b=>.cell (.ptr b 0)) (args.map a.eval++cv).toList:=by
      simpa using (QiS (E:=E) hev args.toList).append (Qnn caps cv.toList (by simpa using hcl) (fun i b hb=>by simpa using hcap i b hb))
     obtain ⟨hent,hcall⟩:=QfX hP hH hl hargs h hp hnm
     unfold Oper.wp
     have hrun:(execOp a.eval ⟨dst,.call ⟨.value f,args,argTypes⟩,type,pos,after,guard⟩).run P E.w=.ok (.enter g (args.map a.eval++cv)) E.w:=by
      simp [execOp,resolve,e,Deferred.ofValue,invoke,QfY hent]
     rw [hrun]
     refine hcall.mono ?_
     rintro e' w' ⟨v,E',rfl,rfl,h2,h3⟩
     exact hn E' v h2 h3
    ·cases h
  |invoke rv name =>
    simp only at h
    have hf:=hev rv
    split at h
    ·rename_i t b hy
     rw [hy] at hf
     obtain ⟨v,⟨e,h1⟩,hU,hh⟩:=hf
     injection e with e
     cases hm:T.meth t name with
     |none=>rw [hm] at h;cases h
     |some g =>
       rw [hm] at h
       simp only at h
       have hmeth:=hT.meth t name g hm v E.w
       have hargs:QhL E (.cell (.ptr b 0) :: args.toList.map ev) (#[v]++args.map a.eval).toList:=by
        refine ⟨v,args.toList.map a.eval,by simp,⟨v,⟨rfl,h1⟩,hU,hh⟩,QiS hev args.toList⟩
       obtain ⟨hent,hcall⟩:=QfX hP hH hl hargs h hp hnm
       unfold Oper.wp
       have hrun:(execOp a.eval ⟨dst,.call ⟨.invoke rv name,args,argTypes⟩,type,pos,after,guard⟩).run P E.w=.ok (.enter g (#[v]++args.map a.eval)) E.w:=by
        have h0:(#[Value.iface t v]++args.map a.eval)[0]?=some (.iface t v):=by rw [← Array.getElem?_toList];simp
        have h2:(#[Value.iface t v]++args.map a.eval).extract 1 (#[Value.iface t v]++args.map a.eval).size=args.map a.eval:=by apply Array.ext';simp;exact List.take_of_length_le (by simp)
        simp only [execOp,resolve,e,Sem.run_bind,Sem.run_pure,Result.andThen_ok,invoke,h0,h2,callMethod]
        simp [hmeth,QfY hent]
       rw [hrun]
       refine hcall.mono ?_
       rintro e' w' ⟨v',E',rfl,rfl,h2,h3⟩
       exact hn E' v' h2 h3
    ·cases h
 all_goals cases h
end
structure Sim (st:St) (E:Env) (a:Act):Prop where
 defers:a.defers=[]
 len:a.tmps.size=st.tmps.length
 tmp:∀ (i:Nat) x,st.tmps[i]?=some x→∃ v,a.tmps[i]?=some v∧AVR E x v
 ok:Qt E
 H:∀ b,E.H b=st.look b
 U:∀ b,E.U b→b < st.heap.length
structure Fr (E0 E:Env):Prop where
 fr:Qcd (QgI E0) E
 ext:Ext E0 E
section
variable {P:Program} {T:Tab}
theorem Qpl (E:Env) (v:Value):AVR E (QmX v) v:=by
 unfold QmX
 split
 ·rename_i cs
  split
  ·rename_i h
   refine ⟨cs,rfl,?_⟩
   have h:∀ u ∈ cs.toList,u.oneCell'=true:=fun u hu=>List.all_eq_true.1 h u hu
   generalize cs.toList=l at h
   induction l with
   |nil=>exact rfl
   |cons u l ih=>exact ⟨[u],l,rfl,⟨rfl,h u (by simp)⟩,ih fun x hx=>h x (by simp [hx])⟩
  ·trivial
 ·trivial
 ·rename_i h1 h2
  refine ⟨rfl,?_⟩
  cases v<;>first |rfl |exact absurd rfl (h1 _) |exact absurd rfl (h2 _)
theorem Sim.at_ {st:St} {E:Env} {a:Act} (h:Sim st E a) (t:Tmp):AVR E (st.tmp t) (a.tmps.getD t undef):=by
 unfold St.tmp
 cases hx:st.tmps[t]? with
 |none=>simp [List.getD,hx];trivial
 |some x =>
   obtain ⟨v,h1,h2⟩:=h.tmp t x hx
   simp [List.getD,hx,h1]
   exact h2
theorem Sim.eval {st:St} {E:Env} {a:Act} (h:Sim st E a) (x:Operand):AVR E (st.eval x) (a.eval x):=by
 cases x with
 |tmp t=>exact h.at_ t
 |const v=>exact Qpl E v
 |func f=>exact ⟨#[],rfl,rfl,fun i b hb=>by simp at hb⟩
 |global g=>trivial
theorem QdV:∀ (h:List (Option Blk)) (n:Nat) (o:Option Blk) (b:Nat),(match (QaB h n o)[b]? with |some x=>x |none=>none)=if b=n then o else (match h[b]? with |some x=>x |none=>none)
 | [],0,o,b=>by
   cases b with
   |zero=>simp [QaB]
   |succ b=>simp [QaB]
 | [],n+1,o,b=>by
   cases b with
   |zero=>simp [QaB]
   |succ b=>simpa [QaB] using QdV [] n o b
 |x :: r,0,o,b=>by
   cases b with
   |zero=>simp [QaB]
   |succ b=>simp [QaB]
 |x :: r,n+1,o,b=>by
   cases b with
   |zero=>simp [QaB]
   |succ b=>simpa [QaB] using QdV r n o b
theorem QeS:∀ (h:List (Option Blk)) (n:Nat) (o:Option Blk),(QaB h n o).length=max h.length (n+1)
 | [],0,o=>by simp [QaB]
 | [],n+1,o=>by simp [QaB,QeS [] n o]
 |x :: r,0,o=>by simp [QaB]
 |x :: r,n+1,o=>by simp [QaB,QeS r n o]
theorem QgN:∀ (l:List (Nat × Option Blk)) (h:List (Option Blk)) (b:Nat),(match (Qdv h l)[b]? with |some x=>x |none=>none)=Qfs (fun b=>match h[b]? with |some x=>x |none=>none) l b
 | [],h,b=>rfl
 |(n,o) :: l,h,b=>by
   rw [Qdv,QgN l,Qfs]
   congr 1
   funext c
   exact QdV h n o c
theorem Qfw:∀ (l:List (Nat × Option Blk)) (h:List (Option Blk)),h.length≤(Qdv h l).length
 | [],h=>Nat.le_refl _
 |(n,o) :: l,h=>by
   rw [Qdv]
   have:=Qfw l (QaB h n o)
   rw [QeS] at this
   omega
theorem QgO:∀ (l:List Blk) (h:List (Option Blk)) (nm b:Nat),(match (Qef h nm l)[b]? with |some x=>x |none=>none)=addF (fun b=>match h[b]? with |some x=>x |none=>none) nm l b
 | [],h,nm,b=>rfl
 |x :: l,h,nm,b=>by
   rw [Qef,QgO l,addF]
   congr 1
   funext c
   exact QdV h nm (some x) c
theorem QdW:∀ (l:List Blk) (h:List (Option Blk)) (nm:Nat),h.length≤(Qef h nm l).length∧(0 < l.length→nm+l.length≤(Qef h nm l).length)
 | [],h,nm=>⟨Nat.le_refl _,fun h=>by simp at h⟩
 |x :: l,h,nm=>by
   rw [Qef]
   obtain ⟨h1,h2⟩:=QdW l (QaB h nm (some x)) (nm+1)
   rw [QeS] at h1
   refine ⟨by omega,fun _=>?_⟩
   simp only [List.length_cons]
   by_cases hl:0 < l.length
   ·have:=h2 hl;omega
   ·have:l.length=0:=by omega
    omega
theorem Qnp (st:St) (nm:Nat) (r:Res) (b:Nat):(st.act nm r).look b=addF (Qfs st.look r.set) nm r.add b:=by
 show (match (Qef (Qdv st.heap r.set) nm r.add)[b]? with |some x=>x |none=>none)=_
 refine (QgO _ _ _ _).trans ?_
 congr 1
 funext c
 exact QgN r.set st.heap c
theorem Sim.step {st:St} {E E':Env} {a:Act} {nm:Nat} {r:Res} {v:Value} {dst:Option Tmp} (h:Sim st E a) (hs:QaI E r nm E') (hv:AVR E' r.val v):Sim ((st.act nm r).put dst r.val) E' (a.put dst v):=by
 have hlook:∀ b,((st.act nm r).put dst r.val).look b=(st.act nm r).look b:=fun b=>by cases dst<;>rfl
 have hheap:((st.act nm r).put dst r.val).heap=(st.act nm r).heap:=by cases dst<;>rfl
 refine ⟨by cases dst<;>exact h.defers,?_,fun i x hx=>?_,hs.ok,fun b=>?_,fun b hb=>?_⟩
 ·cases dst with
  |none=>exact h.len
  |some d=>simp [Act.put,St.put,St.act,h.len]
 ·cases dst with
  |none =>
    obtain ⟨u,h1,h2⟩:=h.tmp i x hx
    exact ⟨u,h1,h2.ext hs.ext⟩
  |some d =>
    simp only [St.put,St.act,List.getElem?_set] at hx
    by_cases hd:d=i
    ·subst hd
     simp only [if_true] at hx
     split at hx
     ·rename_i hlt
      injection hx with hx
      subst hx
      exact ⟨v,by simp [Act.put,h.len,hlt],hv⟩
     ·cases hx
    ·rw [if_neg hd] at hx
     obtain ⟨u,h1,h2⟩:=h.tmp i x hx
     exact ⟨u,by simp [Act.put,Array.getElem?_setIfInBounds_ne hd,h1],h2.ext hs.ext⟩
 ·rw [hlook,hs.H,Qnp]
  congr 1
  funext c
  congr 1
  funext d
  exact h.H d
 ·rw [hheap]
  have h1:=Qfw r.set st.heap
  obtain ⟨h2,h3⟩:=QdW r.add (Qdv st.heap r.set) nm
  have h4:(st.act nm r).heap=Qef (Qdv st.heap r.set) nm r.add:=rfl
  rw [h4]
  rcases (hs.U b).1 hb with h5 |⟨h5,h6⟩
  ·have:=h.U b h5
   omega
  ·have:=h3 (by omega)
   omega
theorem Fr.step {E0 E E':Env} {nm:Nat} {r:Res} (h:Fr E0 E) (hs:QaI E r nm E'):Fr E0 E':=⟨hs.fr _ h.fr,h.ext.trans hs.ext⟩
theorem Qnq {p:Option Prop} {q:Prop} (h:need p q):(∀ x,p=some x→x)∧q:=by
 cases p with
 |none=>exact ⟨fun x hx=>(by cases hx),h⟩
 |some p =>
   have:=Ql.out h
   exact ⟨fun x hx=>by injection hx with hx;subst hx;exact this.1,this.2⟩
theorem QgP (hT:Qae P T) {o:Oper} {st:St} {E:Env} {a:Act} (hs:Sim st E a) {eq:Bool} {A B:Prop} (h:QlQ T st o=some (eq,A,B)) :
 ∃ nil:Bool,(execOp a.eval o).run P E.w=.ok (.value (.bool (if nil then eq else !eq))) E.w∧(nil=true→A)∧(nil=false→B):=by
 have key:∀ {op:BinOp} {t e:TypeId} {x:Operand} {v:Value} {nil:Bool},(op=.eql∨op=.neq)→P.underlying t=some (.slice e)→a.eval x=v→(∃ ad n c,v=.slice ad n c∧ad.isNone=nil) →
  (do eqGuard op t x (.const (.slice none 0 0)) v (.slice none 0 0);binOp op t v (.slice none 0 0):Sem Value).run P E.w=.ok (.bool (if nil then decide (op=.eql) else !decide (op=.eql))) E.w:=by
  rintro op t e x v nil hop hu hx ⟨ad,n,c,rfl,rfl⟩
  rcases hop with rfl |rfl
  ·have h1:(Op.equal t (.slice ad n c) (.slice none 0 0)).run P E.w=.ok ad.isNone E.w:=run_equal_slice_nil E.w t e ad n c hu
   simp [eqGuard,binOp,h1]
   cases ad<;>rfl
  ·have h1:(binOp .neq t (.slice ad n c) (.slice none 0 0)).run P E.w=.ok (.bool (!ad.isNone)) E.w:=run_neq_slice_nil E.w t e ad n c hu
   simp [eqGuard,h1]
   cases ad<;>rfl
 have rel:∀ {c:QD} {t:Ty} {l:List (Den t)} {v:Value},Qak st.look c=some ⟨t,l⟩→QaC E c [v]→∃ ad n cp,v=.slice ad n cp∧(ad.isNone=true→l.length=0):=by
  intro c t l v h hc
  obtain ⟨ad,cap,e,_,h2⟩:=QbU hs.ok (fun b x hb=>(hs.H b).trans hb) h hc
  refine ⟨ad,_,cap,e,fun hn=>?_⟩
  cases l with
  |nil=>rfl
  |cons y l =>
    obtain ⟨ad',_,he,_⟩:=h2 (by simp)
    rw [he] at hn;cases hn
 obtain ⟨dst,op,ty,pos,after,guard⟩:=o
 unfold QlQ at h
 simp only at h
 split at h
 ·rename_i bop t x bty
  split at h
  ·rename_i ti hti
   have hok:=(hT.ty _ _ hti).und
   have fin:∀ {bop:BinOp} {e:TypeId} {eq:Bool} {A B:Prop},(bop=.eql∨bop=.neq)→decide (bop=.eql)=eq→P.underlying t=some (.slice e) →
    (match st.eval x with
      |.one (.c (.imm (.slice none 0 0)))=>some (eq,True,False)
      |.one (.c c)=>match Qak st.look c with |some ⟨_,l⟩=>some (eq,l.length=0,True) |none=>none
      |_=>none)=some (eq,A,B) →
    ∃ nil:Bool,(execOp a.eval { dst:=dst,op:=.binOp bop t x (.const (.slice none 0 0)) bty,type:=ty,pos:=pos,after:=after,guard:=guard }).run P E.w=.ok (.value (.bool (if nil then eq else !eq))) E.w∧(nil=true→A)∧(nil=false→B):=by
    intro bop e eq A B hop heq hu h
    have he:=hs.eval x
    have vl:∀ (s:Sem Value) v w',s.run P E.w=.ok v w'→(do pure (.value (← s)):Sem Next).run P E.w=.ok (.value v) w':=fun s v w' hs=>by simp [hs]
    split at h
    ·rename_i hx
     rw [hx] at he
     obtain ⟨hv,_⟩:=he
     injection hv with hv
     simp only [Option.some.injEq,Prod.mk.injEq] at h
     obtain ⟨_,rfl,rfl⟩:=h
     refine ⟨true,?_,fun _=>trivial,fun h=>by cases h⟩
     have:=key (nil:=true) hop hu rfl ⟨none,0,0,hv,rfl⟩
     rw [heq] at this
     exact vl _ _ _ this
    ·rename_i c _ hx
     rw [hx] at he
     split at h
     ·rename_i t' l hsl
      simp only [Option.some.injEq,Prod.mk.injEq] at h
      obtain ⟨_,rfl,rfl⟩:=h
      obtain ⟨ad,n,cp,hv,hn⟩:=rel hsl he
      refine ⟨ad.isNone,?_,hn,fun _=>trivial⟩
      have:=key (nil:=ad.isNone) hop hu rfl ⟨ad,n,cp,hv,rfl⟩
      rw [heq] at this
      exact vl _ _ _ this
     ·cases h
    ·cases h
   split at h
   ·rename_i e hd
    rw [hd] at hok
    have hq:eq=true:=by
     split at h
     ·simp only [Option.some.injEq,Prod.mk.injEq] at h;exact h.1.symm
     ·split at h
      ·simp only [Option.some.injEq,Prod.mk.injEq] at h;exact h.1.symm
      ·cases h
     ·cases h
    subst hq
    exact fin (.inl rfl) rfl hok h
   ·rename_i e hd
    rw [hd] at hok
    have hq:eq=false:=by
     split at h
     ·simp only [Option.some.injEq,Prod.mk.injEq] at h;exact h.1.symm
     ·split at h
      ·simp only [Option.some.injEq,Prod.mk.injEq] at h;exact h.1.symm
      ·cases h
     ·cases h
    subst hq
    exact fin (.inr rfl) rfl hok h
   ·cases h
  ·cases h
 ·cases h
theorem Sim.putV {st:St} {E:Env} {a:Act} (h:Sim st E a) (dst:Option Tmp) {x:AV} {v:Value} (hx:AVR E x v):Sim (st.put dst x) E (a.put dst v):=by
 cases dst with
 |none=>exact h
 |some d =>
   refine ⟨h.defers,by simp [St.put,Act.put,h.len],fun i y hy=>?_,h.ok,h.H,h.U⟩
   simp only [St.put,List.getElem?_set] at hy
   by_cases hd:d=i
   ·subst hd
    simp only [if_true] at hy
    split at hy
    ·rename_i hlt
     injection hy with hy
     subst hy
     exact ⟨v,by simp [Act.put,h.len,hlt],hx⟩
    ·cases hy
   ·rw [if_neg hd] at hy
    obtain ⟨u,h1,h2⟩:=h.tmp i y hy
    exact ⟨u,by simp [Act.put,Array.getElem?_setIfInBounds_ne hd,h1],h2⟩
theorem Qpm (hT:Qae P T) (hP:Qe P T) {o:Oper} {nm:Nat} {st:St} {K:St→Prop} (h:QuO T o nm st K) {E0 E:Env} {a:Act} (hs:Sim st E a) (hf:Fr E0 E) (hnm:st.heap.length≤nm)
 {next:Act→World→Prop} {Q:Exit→Act→World→Prop} (hn:∀ st' E' a',Sim st' E' a'→Fr E0 E'→K st'→next a' E'.w):o.wp P a E.w next Q:=by
 unfold QuO at h
 split at h
 ·rename_i A B hnil
  obtain ⟨nil,hr,hA,hB⟩:=QgP hT hs hnil
  cases h with
  |mk h1 h2 =>
    refine Qa6 hr ?_
    cases nil with
    |true=>have:=h1 (hA rfl);rw [QaW] at this;exact hn _ E _ (hs.putV (x:=.cell (bv _)) o.dst ⟨rfl,rfl⟩) hf this
    |false=>have:=h2 (hB rfl);rw [QaW] at this;exact hn _ E _ (hs.putV (x:=.cell (bv _)) o.dst ⟨rfl,rfl⟩) hf this
 ·rename_i A B hnil
  obtain ⟨nil,hr,hA,hB⟩:=QgP hT hs hnil
  cases h with
  |mk h1 h2 =>
    refine Qa6 hr ?_
    cases nil with
    |true=>have:=h1 (hA rfl);rw [QaW] at this;exact hn _ E _ (hs.putV (x:=.cell (bv _)) o.dst ⟨rfl,rfl⟩) hf this
    |false=>have:=h2 (hB rfl);rw [QaW] at this;exact hn _ E _ (hs.putV (x:=.cell (bv _)) o.dst ⟨rfl,rfl⟩) hf this
 split at h
 ·rename_i r hr
  obtain ⟨hp,hk⟩:=Qnq h
  rw [QqR,QaW] at hk
  exact QgM hT hP hs.ok hs.eval (fun b x hb=>(hs.H b).trans hb) hr hp (fun k _ hU=>by have:=hs.U _ hU;omega) fun E' v h1 h2=>hn _ E' _ (hs.step h1 h2) (hf.step h1) hk
 ·exact h.elim
theorem Sim.same {st:St} {E:Env} {a:Act} (h:Sim st E a) {d:Tmp} {x:AV} (hx:AVR E x (a.tmps.getD d undef)):Sim (st.put (some d) x) E a:=by
 refine ⟨h.defers,by simp [St.put,h.len],fun i y hy=>?_,h.ok,h.H,h.U⟩
 simp only [St.put,List.getElem?_set] at hy
 by_cases hd:d=i
 ·subst hd
  simp only [if_true] at hy
  split at hy
  ·rename_i hlt
   injection hy with hy
   subst hy
   have hlt':d < a.tmps.size:=by rw [h.len];exact hlt
   refine ⟨a.tmps[d],by simp [hlt'],?_⟩
   simpa [hlt'] using hx
  ·cases hy
 ·rw [if_neg hd] at hy
  exact h.tmp i y hy
theorem Sim.dead {st:St} {E:Env} {a:Act} (h:Sim st E a) (dst:Option Tmp):Sim (st.put dst .dead) E (a.put dst undef):=by
 cases dst with
 |none=>exact h
 |some d =>
   refine ⟨h.defers,by simp [St.put,Act.put,h.len],fun i y hy=>?_,h.ok,h.H,h.U⟩
   simp only [St.put,List.getElem?_set] at hy
   by_cases hd:d=i
   ·subst hd
    simp only [if_true] at hy
    split at hy
    ·rename_i hlt
     injection hy with hy
     subst hy
     exact ⟨undef,by simp [Act.put,h.len,hlt],trivial⟩
    ·cases hy
   ·rw [if_neg hd] at hy
    obtain ⟨u,h1,h2⟩:=h.tmp i y hy
    exact ⟨u,by simp [Act.put,Array.getElem?_setIfInBounds_ne hd,h1],h2⟩
theorem Sim.skip {st:St} {E:Env} {a:Act} (h:Sim st E a) (dst:Option Tmp):Sim (st.put dst (.tup [])) E (a.put dst undef):=by
 cases dst with
 |none=>exact h
 |some d =>
   refine ⟨h.defers,by simp [St.put,Act.put,h.len],fun i y hy=>?_,h.ok,h.H,h.U⟩
   simp only [St.put,List.getElem?_set] at hy
   by_cases hd:d=i
   ·subst hd
    simp only [if_true] at hy
    split at hy
    ·rename_i hlt
     injection hy with hy
     subst hy
     exact ⟨undef,by simp [Act.put,h.len,hlt],⟨#[],rfl,rfl⟩⟩
    ·cases hy
   ·rw [if_neg hd] at hy
    obtain ⟨u,h1,h2⟩:=h.tmp i y hy
    exact ⟨u,by simp [Act.put,Array.getElem?_setIfInBounds_ne hd,h1],h2⟩
theorem Qkk {ops:Array Oper} {o:Oper} {d:Tmp} {want b:Bool} {st:St} {E:Env} {a:Act} (h:Sim st E a) (hg:Qan ops o=some (some (d,want))) (hb:st.tmp d=.cell (bv b)) :
 Region.wanted o (yielded ops a.tmps)=(b == want)∧a.tmps.getD d undef=.bool b:=by
 have hrel:=h.at_ d
 rw [hb] at hrel
 obtain ⟨e,_⟩:=hrel
 injection e with e
 refine ⟨?_,e⟩
 unfold Qan at hg
 unfold Region.wanted
 cases ho:o.guard with
 |none=>rw [ho] at hg;cases hg
 |some jw =>
   obtain ⟨j,w⟩:=jw
   rw [ho] at hg
   simp only at hg
   cases hj:ops[j]? with
   |none=>rw [hj] at hg;cases hg
   |some oj =>
     rw [hj] at hg
     simp only at hg
     cases hd:oj.dst with
     |none=>rw [hd] at hg;cases hg
     |some d' =>
       rw [hd] at hg
       simp only [Option.some.injEq,Prod.mk.injEq] at hg
       obtain ⟨rfl,rfl⟩:=hg
       have hlt:d' < a.tmps.size:=by
        rcases Nat.lt_or_ge d' a.tmps.size with h |h
        ·exact h
        ·rw [Array.getD_eq_getD_getElem?,Array.getElem?_eq_none h] at e
         simp [undef] at e
       have:a.tmps[d']?=some (.bool b):=by
        rw [Array.getElem?_eq_getElem hlt,← e]
        simp [hlt]
       simp [yielded,hj,hd,this]
theorem Qkl {ops:Array Oper} {o:Oper} {d:Tmp} {want:Bool} {st:St} {E:Env} {a:Act} (h:Sim st E a) (hg:Qan ops o=some (some (d,want))) (hb:st.tmp d=.tup []) :
 Region.wanted o (yielded ops a.tmps)=false:=by
 have hrel:=h.at_ d
 rw [hb] at hrel
 obtain ⟨vs,e,_⟩:=hrel
 unfold Qan at hg
 unfold Region.wanted
 cases ho:o.guard with
 |none=>rw [ho] at hg;cases hg
 |some jw =>
   obtain ⟨j,w⟩:=jw
   rw [ho] at hg
   simp only at hg
   cases hj:ops[j]? with
   |none=>rw [hj] at hg;cases hg
   |some oj =>
     rw [hj] at hg
     simp only at hg
     cases hd:oj.dst with
     |none=>rw [hd] at hg;cases hg
     |some d' =>
       rw [hd] at hg
       simp only [Option.some.injEq,Prod.mk.injEq] at hg
       obtain ⟨rfl,rfl⟩:=hg
       have:yielded ops a.tmps j=none:=by
        unfold yielded
        simp only [hj,Option.bind_some,hd]
        cases ht:a.tmps[d']? with
        |none=>rfl
        |some x =>
          have:x=.tuple vs:=by
           rw [← e,Array.getD_eq_getD_getElem?,ht];rfl
          rw [this]
       show (yielded ops a.tmps j == some w)=false
       rw [this]
       rfl
theorem Qia {ops:Array Oper} {o:Oper} (hg:Qan ops o=some none) (y:Nat→Option Bool):Region.wanted o y=true:=by
 unfold Qan at hg
 unfold Region.wanted
 cases ho:o.guard with
 |none=>rfl
 |some jw =>
   obtain ⟨j,w⟩:=jw
   rw [ho] at hg
   simp only at hg
   split at hg
   ·split at hg<;>simp at hg
   ·cases hg
theorem QbX (hT:Qae P T) (hP:Qe P T) {ops:Array Oper} {E0:Env} {Q:Exit→Act→World→Prop}:∀ (l:List Oper) (k:Nat) {st:St} {K:St→Prop} {E:Env} {a:Act},ops.toList.drop k=l→Qfr T ops l st K→Sim st E a→Fr E0 E →
 (∀ st' E' a',Sim st' E' a'→Fr E0 E'→K st'→Q .normal a' E'.w)→wpOps P ops Q (List.range' k l.length) a E.w
 | [],k,st,K,E,a,_,h,hs,hf,hq=>by
   simp only [List.length_nil,List.range'_zero,wpOps]
   exact hq st E a hs hf h
 |o :: l,k,st,K,E,a,hd,h,hs,hf,hq=>by
   have hk:ops[k]?=some o:=by
    rw [← Array.getElem?_toList]
    have:=congrArg (·[0]?) hd
    simpa using this
   have hd':ops.toList.drop (k+1)=l:=by
    have:=congrArg (List.drop 1) hd
    simpa using this
   have run:∀ (st1:St),Sim st1 E a→(Qam lits st1.heap st1.heap.length fun nm=>QuO T o nm st1 fun st'=>Qfr T ops l st' K)→o.wp P a E.w (wpOps P ops Q (List.range' (k+1) l.length)) Q:=by
    intro st1 hs1 h1
    obtain ⟨nm,h2,h1⟩:=named h1
    exact Qpm hT hP h1 hs1 hf h2 fun st' E' a' g1 g2 g3=>QbX hT hP l (k+1) hd' g3 g1 g2 hq
   rw [List.length_cons,List.range'_succ]
   simp only [wpOps,hk]
   unfold Qfr at h
   split at h
   ·exact h.elim
   ·rename_i hg
    rw [if_pos (Qia hg _)]
    exact .inl (run st hs h)
   ·rename_i d want hg
    split at h
    ·rename_i b hb
     obtain ⟨h1,h2⟩:=Qkk hs hg hb
     rw [h1]
     cases b with
     |true =>
       simp only [Br] at h
       have hs':Sim (st.put (some d) (.cell (bv true))) E a:=hs.same (by rw [h2];exact ⟨rfl,rfl⟩)
       cases want with
       |true=>simp only [QaW] at h;exact .inl (run _ hs' h)
       |false=>simp only [QaW] at h;exact QbX hT hP l (k+1) hd' h (hs'.skip o.dst) hf hq
     |false =>
       simp only [Br] at h
       have hs':Sim (st.put (some d) (.cell (bv false))) E a:=hs.same (by rw [h2];exact ⟨rfl,rfl⟩)
       cases want with
       |false=>simp only [QaW] at h;exact .inl (run _ hs' h)
       |true=>simp only [QaW] at h;exact QbX hT hP l (k+1) hd' h (hs'.skip o.dst) hf hq
    ·rename_i hb
     rw [Qkl hs hg hb]
     simp only [QaW] at h
     exact QbX hT hP l (k+1) hd' h (hs.skip o.dst) hf hq
    ·exact h.elim
end
end Go.Fw

