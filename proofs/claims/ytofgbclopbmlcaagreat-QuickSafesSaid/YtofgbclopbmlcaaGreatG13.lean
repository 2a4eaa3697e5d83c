/- Part 13 of the proof. Conditions: none. -/
import Derived.Test.YtofgbclopbmlcaaGreatG12
namespace Go.Fw
set_option linter.unusedVariables false
set_option linter.unusedSimpArgs false
def Qhs(T:Tab)(st:St):ResultVar→Option AV
 |.tmp t=>some (st.tmp t)
 |.cell a t=>match QwN T st.look t (st.tmp a) with
  |some r=>(match r.pre with|none=>some r.val|some _=>none)
  |none=>none
def Qoz(T:Tab)(st:St):List ResultVar→Option AV
 | [r]=>Qhs T st r
 |l=>match Qfa (Qhs T st) l with
  |some vs=>(match ones vs with|some xs=>some (.tup xs)|none=>none)
  |none=>none
def QEj(nm:Nat):List Cell→Option (List Cell)
 | []=>none
 |c::cs=>match c with
  |.imm (.slice none 0 0)=>some (.own nm::cs)
  |c=>match QEj nm cs with|some r=>some (c::r)|none=>none
def noV(nm:Nat):V1→Option V1
 |.c c=>match c with|.imm (.slice none 0 0)=>some (.c (.own nm))|_=>none
 |.agg cs=>match QEj nm cs with|some r=>some (.agg r)|none=>none
def QGZ(nm:Nat):List V1→Option (List V1)
 | []=>none
 |v::vs=>match noV nm v with
  |some w=>some (w::vs)
  |none=>match QGZ nm vs with|some r=>some (v::r)|none=>none
def noA(nm:Nat):AV→Option AV
 |.dead=>none
 |.one v=>match noV nm v with|some w=>some (.one w)|none=>none
 |.tup l=>match QGZ nm l with|some w=>some (.tup w)|none=>none
section
variable {E:Env} {nm:Nat} {t:Ty}
theorem QBz{v:Value}(h:QaK E (.imm (.slice none 0 0)) [v]):QaK (Qb4 E [] nm t) (.own nm) [v]:=by
 obtain⟨e,_⟩:=h;injection e with e
 subst e;exact Qfq E [] nm t
theorem QjP(hx:Ext E (Qb4 E [] nm t)):∀{cs ds:List Cell} {vs:List Value},QEj nm cs=some ds→IR E cs vs→IR (Qb4 E [] nm t) ds vs
 | [],_,_,h,_=>by cases h
 |c::cs,ds,vs,h,⟨r,s,e,h1,h2⟩=>by
  unfold QEj at h;split at h
  ·injection h with h
   subst h;obtain⟨e2,_⟩:=h1;subst e2;exact⟨_,s,e,Qfq E [] nm t,h2.ext hx⟩
  ·split at h
   ·rename_i r' hr';injection h with h
    subst h;exact⟨r,s,e,h1.ext hx,QjP hx hr' h2⟩
   ·cases h
theorem QsC(hx:Ext E (Qb4 E [] nm t)){x y:V1}{v:Value}(h:noV nm x=some y)(hv:V1R E x v):V1R (Qb4 E [] nm t) y v:=by
 unfold noV at h;split at h
 ·split at h
  ·injection h with h
   subst h;exact QBz hv
  ·cases h
 ·split at h
  ·rename_i r hr;injection h with h
   subst h;obtain⟨vals,e,hi⟩:=hv;exact⟨vals,e,QjP hx hr hi⟩
  ·cases h
theorem QoA(hx:Ext E (Qb4 E [] nm t)):∀{xs ys:List V1} {vs:List Value},QGZ nm xs=some ys→VsR E xs vs→VsR (Qb4 E [] nm t) ys vs
 | [],_,_,h,_=>by cases h
 |x::xs,ys,vs,h,⟨v,r,e,h1,h2⟩=>by
  unfold QGZ at h;split at h
  ·rename_i w hw;injection h with h
   subst h;exact⟨v,r,e,QsC hx hw h1,h2.ext hx⟩
  ·split at h
   ·rename_i r' hr';injection h with h
    subst h;exact⟨v,r,e,h1.ext hx,QoA hx hr' h2⟩
   ·cases h
theorem QBA(hx:Ext E (Qb4 E [] nm t)){x y:AV}{v:Value}(h:noA nm x=some y)(hv:AVR E x v):AVR (Qb4 E [] nm t) y v:=by
 unfold noA at h;split at h
 ·cases h
 ·split at h
  ·rename_i w hw;injection h with h
   subst h;exact QsC hx hw hv
  ·cases h
 ·split at h
  ·rename_i w hw;injection h with h
   subst h;obtain⟨vs,e,hi⟩:=hv;exact⟨vs,e,QoA hx hw hi⟩
  ·cases h
theorem Back.nil{E0:Env}{m:Nat}{r r':AV}{upd:List (Option Blk)}{fresh:List Blk}{v:Value}(h:Back E0 m r' upd fresh v E)(t:Ty)(hr:noA (m+fresh.length) r'=some r) :
 Back E0 m r upd (fresh++[.arr t []]) v (Qb4 E [] (m+fresh.length) t):=by
 have hU:¬E.U (m+fresh.length):=fun hu=>by have:=(h.U _).1 hu;omega
 have st:Step E { pre:=none,val:=.dead,add:=[.arr t []],set:=[] } (m+fresh.length) (Qb4 E [] (m+fresh.length) t):=Step.nil (us:=[]) h.ok rfl rfl hU;refine⟨QBA st.ext hr h.val,st.ok,fun b=>?_,fun b=>?_,h.ext.trans st.ext,st.fr _ h.fr⟩
 ·show(if b=m+fresh.length then some (Blk.arr t []) else if b∈([]:List Nat) then none else E.H b)=_;rw[if_neg (List.not_mem_nil),h.H b];by_cases h1:b=m+fresh.length
  ·subst h1;rw[if_pos rfl,if_neg (by omega),List.getElem?_append_right (by omega)];simp
  ·rw[if_neg h1];by_cases h2:b<m
   ·rw[if_pos h2,if_pos h2]
   ·rw[if_neg h2,if_neg h2];by_cases h3:b-m<fresh.length
    ·rw[List.getElem?_append_left h3]
    ·rw[List.getElem?_append_right (by omega),List.getElem?_eq_none (by omega),List.getElem?_eq_none (by simp;omega)]
 ·show E.U b∨b=m+fresh.length↔_;rw[h.U b,List.length_append,List.length_singleton];omega
end
inductive Ends(P:Program)(T:Tab)(m:Nat)(fn:Func):AV→List (Option Blk)→List Blk→St→Prop where
 |mk {r:AV} {upd:List (Option Blk)} {fresh:List Blk} {st:St} (us acc:List Nat) (v:AV) (hr:Qoz T st fn.results.toList=some v) (c1:QgC m acc=true) (c2:Qr4 st.look us acc acc=true)
   (c3:inN acc (fzA st.look us v).names=true) (hu:Nat.beq upd.length m=true) (hh:wkH st.look us acc=upd++fresh.map some) (he:(fzA st.look us v).rn (idx acc)=r):Ends P T m fn r upd fresh st
 |le {r:AV} {upd:List (Option Blk)} {fresh:List Blk} {st st':St} (h:Le m st st') (h2:Ends P T m fn r upd fresh st'):Ends P T m fn r upd fresh st
 |nil {r:AV} {upd:List (Option Blk)} {fresh:List Blk} {st:St} (t:Ty) (r':AV) (fresh':List Blk) (h:Ends P T m fn r' upd fresh' st) (hr:noA (m+fresh'.length) r'=some r) (hf:fresh'++[.arr t []]=fresh):Ends P T m fn r upd fresh st
def QHD(P:Program)(T:Tab)(m:Nat)(fn:Func)(r:AV)(upd:List (Option Blk))(fresh:List Blk):Cont:=fun e st=>match e with
 |.normal=>Ends P T m fn r upd fresh st
 |.ret=>Ends P T m fn r upd fresh st
 |_=>False
section
variable {P:Program} {T:Tab}
def Qht(tmps:Array Value):ResultVar→Sem Value
 |.tmp t=>pure (tmps.getD t undef)
 |.cell p t=>do loadVar t (←asAddr (tmps.getD p undef))
theorem QqI(fn:Func)(tmps:Array Value):results fn tmps=(do let vs ←fn.results.mapM (Qht tmps);pure (if h:vs.size=1 then vs[0] else .tuple vs)):=by
 unfold results;congr 1
theorem QjQ{α:Type}(P:Program)(w:World)(f:α→Sem Value):∀(l:List α) (vs:List Value),(∀(i:Nat) x,l[i]?=some x→∃v,vs[i]?=some v∧(f x).run P w=.ok v w)→l.length=vs.length→(l.mapM f).run P w=.ok vs w
 | [],[],_,_=>by simp
 |x::l,v::vs,h,hl=>by
  obtain⟨v',h1,h2⟩:=h 0 x rfl;simp at h1;subst h1;have:=QjQ P w f l vs (fun i y hy=>h (i+1) y (by simpa using hy)) (by simpa using hl);simp[List.mapM_cons,h2,this]
 | [],_::_,_,hl=>by simp at hl
 |_::_,[],_,hl=>by simp at hl
theorem Qi6(hT:TabOk P T){st:St}{E:Env}{a:Act}(hs:Sim st E a){r:ResultVar}{x:AV}(h:Qhs T st r=some x) :
 ∃v,(Qht a.tmps r).run P E.w=.ok v E.w∧AVR E x v:=by
 cases r with
 |tmp t =>
  simp only[Qhs,Option.some.injEq] at h;subst h;exact⟨_,by simp[Qht],hs.at_ t⟩
 |cell p t =>
  simp only[Qhs] at h;split at h
  ·rename_i r hr;split at h
   ·rename_i hp;injection h with h
    subst h;obtain⟨v,h1,h2,_,_⟩:=Qoe hT hs.ok (fun b x hb=>(hs.H b).trans hb) (hs.at_ p) hr (fun q hq=>by rw[hp] at hq;cases hq);refine⟨v,?_,h2⟩;unfold Qht;simp only;generalize a.tmps.getD p undef=va at h1 ⊢;have hva:(∃ad,va=.pointer (some ad))∨¬∃ad,va=.pointer (some ad):=Classical.em _;rcases hva with⟨ad,rfl⟩|hn
    ·simpa[Instr.loadAt,Instr.sureAddr,asAddr] using h1
    ·exfalso
     have:(Instr.sureAddr va)=stuck "an address expected (no nilCheck in front?)":=by
      unfold Instr.sureAddr;split
      ·exact absurd ⟨_,rfl⟩ hn
      ·rfl
     simp[Instr.loadAt,this,stuck] at h1
   ·cases h
  ·cases h
theorem VsR.mk{E:Env}:∀{xs:List V1} {vs:List Value},xs.length=vs.length→(∀(i:Nat) x v,xs[i]?=some x→vs[i]?=some v→V1R E x v)→VsR E xs vs
 | [],[],_,_=>rfl
 |x::xs,v::vs,hl,h=>⟨v,vs,rfl,h 0 x v rfl rfl,VsR.mk (by simpa using hl) fun i y u hy hu=>h (i+1) y u (by simpa using hy) (by simpa using hu)⟩
 | [],_::_,hl,_=>by simp at hl
 |_::_,[],hl,_=>by simp at hl
theorem QsD:∀{l:List AV} {xs:List V1},ones l=some xs→l.length=xs.length∧∀(i:Nat) x,xs[i]?=some x→l[i]?=some (.one x)
 | [],xs,h=>by simp[ones] at h;subst h;exact⟨rfl,fun i x hx=>by simp at hx⟩
 |a::l,xs,h=>by
  unfold ones at h;split at h
  ·rename_i h1 h2;cases h2
  ·rename_i x r hx;split at h
   ·rename_i ys hys;injection h with h
    subst h;injection hx with e1 e2
    subst e1;subst e2;obtain⟨h3,h4⟩:=QsD hys;refine⟨by simp[h3],fun i z hz=>?_⟩;cases i with
    |zero=>simp at hz;subst hz;rfl
    |succ i=>simpa using h4 i z (by simpa using hz)
   ·cases h
  ·cases h
theorem QqJ(hT:TabOk P T){st:St}{E:Env}{a:Act}(hs:Sim st E a){fn:Func}{x:AV}(h:Qoz T st fn.results.toList=some x):∃v,(results fn a.tmps).run P E.w=.ok v E.w∧AVR E x v:=by
 have gen:∀(l:List ResultVar) (vs:List AV),Qfa (Qhs T st) l=some vs→∃us:List Value,us.length=l.length∧(∀(i:Nat) y u,vs[i]?=some y→us[i]?=some u→AVR E y u) ∧
  (l.mapM (Qht a.tmps)).run P E.w=.ok us E.w:=by
  intro l vs hm;obtain⟨h1,h2⟩:=QdT hm
  have:∀(l:List ResultVar) (vs:List AV),vs.length=l.length→(∀(i:Nat) r,l[i]?=some r→∃y,Qhs T st r=some y∧vs[i]?=some y)→∃us:List Value,us.length=l.length∧(∀(i:Nat) y u,vs[i]?=some y→us[i]?=some u→AVR E y u) ∧
   ∀(i:Nat) r,l[i]?=some r→∃u,us[i]?=some u∧(Qht a.tmps r).run P E.w=.ok u E.w:=by
   intro l
   induction l with
   |nil=>intro vs _ _;exact⟨[],rfl,fun i y u _ hu=>by simp at hu,fun i r hr=>by simp at hr⟩
   |cons r l ih =>
    intro vs hl h;cases vs with
    |nil=>simp at hl
    |cons y vs =>
     obtain⟨us,e1,e2,e3⟩:=ih vs (by simpa using hl) (fun i r hr=>by simpa using h (i+1) r (by simpa using hr));obtain⟨y',hy,hy'⟩:=h 0 r rfl;simp at hy';subst hy';obtain⟨v,hv1,hv2⟩:=Qi6 hT hs hy;refine⟨v::us,by simp[e1],fun i z u hz hu=>?_,fun i r' hr'=>?_⟩
     ·cases i with
      |zero=>simp at hz hu;subst hz;subst hu;exact hv2
      |succ i=>exact e2 i z u (by simpa using hz) (by simpa using hu)
     ·cases i with
      |zero=>simp at hr';subst hr';exact⟨v,rfl,hv1⟩
      |succ i=>simpa using e3 i r' (by simpa using hr')
  obtain⟨us,e1,e2,e3⟩:=this l vs h1 h2;exact⟨us,e1,e2,QjQ P E.w _ l us e3 e1.symm⟩
 have run:∀us:List Value,(fn.results.toList.mapM (Qht a.tmps)).run P E.w=.ok us E.w →
  (results fn a.tmps).run P E.w=.ok (if h:us.toArray.size=1 then us.toArray[0] else .tuple us.toArray) E.w:=by
  intro us hu;rw[QqI,Array.mapM_eq_mapM_toList];simp[-Array.getD_eq_getD_getElem?,hu]
 unfold Qoz at h;split at h
 ·rename_i r hl;obtain⟨v,h1,h2⟩:=Qi6 hT hs h;refine⟨v,?_,h2⟩
  have:=run [v] (by rw[hl];exact QjQ P E.w _ [r] [v] (fun i x hx=>by
   cases i with
   |zero=>simp at hx;subst hx;exact⟨v,rfl,h1⟩
   |succ i=>simp at hx) rfl)
  simpa using this
 ·rename_i hl;split at h
  ·rename_i vs hm;split at h
   ·rename_i xs ho;injection h with h
    subst h;obtain⟨us,e1,e2,e3⟩:=gen _ _ hm;obtain⟨o1,o2⟩:=QsD ho
    have hlen:us.length≠1:=by
     intro hu;rw[e1] at hu
     match hr:fn.results.toList,hu with
     | [r],_=>exact hl r hr
    refine⟨_,run us e3,?_⟩;rw[dif_neg (by simpa using hlen)];refine⟨us.toArray,rfl,VsR.mk ?_ fun i x v hx hv=>?_⟩
    ·have:=(QdT hm).1;simp only[List.size_toArray];show xs.length=us.length;omega
    ·exact e2 i _ v (o2 i x hx) (by simpa using hv)
   ·cases h
  ·cases h
theorem Back.of_ends{m:Nat}{E0 E:Env}{a:Act}{st:St}{fn:Func}{r:AV}{upd:List (Option Blk)}{fresh:List Blk}(hT:TabOk P T)(hm:∀b,E0.U b→b<m)(hs:Sim st E a)(hf:Fr E0 E)
 (h:Ends P T m fn r upd fresh st):∃v,(results fn a.tmps).run P E.w=.ok v E.w∧∃E',E'.w=E.w∧Back E0 m r upd fresh v E':=by
 induction h generalizing E with
 |nil t r' fresh' _ hr he ih =>
  obtain⟨v,k1,E2,k2,k3⟩:=ih hs hf;subst he;exact⟨v,k1,Qb4 E2 [] _ t,k2,Back.nil k3 t hr⟩
 |le hle _ ih =>
  obtain⟨E1,e1,s1,f1⟩:=hle E0 E a hm hs hf;obtain⟨v,k1,E2,k2,k3⟩:=ih s1 f1;rw[e1] at k1 k2;exact⟨v,k1,E2,k2,k3⟩
 | @mk r upd fresh st us acc x hr c1 c2 c3 hu hh he =>
   obtain⟨v,h1,h2⟩:=QqJ hT hs hr;obtain⟨k1,k2,k3⟩:=weak hm hs.ok hs.H hf c1 c2;have hu:=Nat.eq_of_beq_eq_true hu
   have hlen:acc.length=m+fresh.length:=by
    have:=congrArg List.length hh;simp[wkH] at this;omega
   refine⟨v,h1,QiI E _ us acc,rfl,he ▸ k3 x v c3 h2,k1,fun b=>?_,fun b=>?_,k2.ext,k2.fr⟩
   ·show(match (wkH _ us acc)[b]? with|some x=>x|none=>none)=_;rw[hh];split<;>rename_i hb
    ·split
     ·rename_i hlt;rw[List.getElem?_append_left (by omega)] at hb;rw[hb];rfl
     ·rename_i hlt;rw[List.getElem?_append_right (by omega),hu,List.getElem?_map] at hb;cases hf:fresh[b-m]? with
      |none=>rw[hf] at hb;cases hb
      |some y=>rw[hf] at hb;simp at hb;exact hb.symm
    ·have:=List.getElem?_eq_none_iff.1 hb;simp at this;rw[if_neg (by omega),List.getElem?_eq_none (by omega)]
   ·show b<acc.length↔_;rw[hlen]
def st0(n:Nat)(args:List V1)(bl:List Blk):St:={ tmps:=args.map .one++List.replicate (n-args.length) .dead,heap:=bl.map some }
theorem VsR.at_{E:Env}:∀{xs:List V1} {vs:List Value},VsR E xs vs→∀(i:Nat) x,xs[i]?=some x→∃v,vs[i]?=some v∧V1R E x v
 | [],_,_,i,x,h=>by simp at h
 |y::xs,_,⟨v,r,e,h1,h2⟩,i,x,h=>by
  subst e;cases i with
  |zero=>simp at h;subst h;exact⟨v,rfl,h1⟩
  |succ i=>simpa using h2.at_ i x (by simpa using h)
theorem Sim.start{E:Env}{args:List V1}{bl:List Blk}{vs:Array Value}(n:Nat)(hH:∀b,E.H b=bl[b]?)(hU:∀b,E.U b↔b<bl.length)(ok:HeapOk E)(hv:VsR E args vs.toList) :
 Sim (st0 n args bl) E { tmps:=vs++Array.replicate (n-vs.size) undef,defers:=[] }:=by
 have hl:vs.size=args.length:=by have:=VsR.len hv;simpa using this
 refine⟨rfl,by simp[st0,hl],fun i x hx=>?_,ok,fun b=>?_,fun b hb=>by simpa[st0] using(hU b).1 hb⟩
 ·simp only[st0,List.getElem?_append] at hx;split at hx
  ·rename_i hi;rw[List.getElem?_map] at hx;cases h:args[i]? with
   |none=>rw[h] at hx;cases hx
   |some y =>
    rw[h] at hx;simp at hx;subst hx;obtain⟨v,h1,h2⟩:=hv.at_ i y h;have hi:i<vs.size:=by simp at hi;omega
    exact⟨v,by simpa[Array.getElem?_append,hi] using h1,h2⟩
  ·rename_i hi;simp at hi;rw[List.getElem?_replicate] at hx;split at hx
   ·rename_i hlt;injection hx with hx
    subst hx;refine⟨undef,?_,trivial⟩;rw[Array.getElem?_append,if_neg (by omega),Array.getElem?_replicate,if_pos (by simp at hlt;omega)]
   ·cases hx
 ·rw[hH];show _=(match (bl.map some)[b]? with|some o=>o|none=>none)
  rw[List.getElem?_map];cases bl[b]?<;>rfl
theorem QjR{f:FuncId}{fn:Func}{c:Code}(hT:TabOk P T)(hf:P.funcs[f]?=some fn)(hb:fn.body=some c)(s:CSpec)
 (h:∀args bl p r upd fresh,s.run args bl=some (p,r,upd,fresh)→(∀q,p=some q→q) →
   ∃args',(∀E vs,HeapOk E→(∀b,E.H b=bl[b]?)→VsR E args vs→VsR E args' vs)∧Does P bl.length c (st0 fn.ntmps args' bl) (QHD P T bl.length fn r upd fresh)):CSound P f s:=by
 intro E0 vs args bl p r upd fresh hH hU hok hvs hrun hp;obtain⟨args',h1,h2⟩:=h args bl p r upd fresh hrun hp;have hm:∀b,E0.U b→b<bl.length:=fun b hb=>(hU b).1 hb
 refine calls_of_wp hf hb (h2 E0 _ E0 _ hm (Sim.start fn.ntmps hH hU hok (h1 E0 _ hok hH hvs)) ⟨Qi2,Ext.refl E0⟩ ?_);intro e st' E' a' hk hs' hf'
 have fin:Ends P T bl.length fn r upd fresh st'→a'.defers=[]∧∃v,(results fn a'.tmps).run P E'.w=.ok v E'.w∧∃v' E'',Ending.returned v=.returned v'∧E''.w=E'.w∧Back E0 bl.length r upd fresh v' E'':=by
  intro he;obtain⟨v,k1,E'',k2,k3⟩:=Back.of_ends hT hm hs' hf' he;exact⟨hs'.defers,v,k1,v,E'',rfl,k2,k3⟩
 cases e with
 |normal=>exact fin hk
 |ret=>exact fin hk
 |_=>exact hk.elim
structure Sig where
 ag:Bool
 t:Ty
@[reducible] def Args:List Sig→Type
  | []=>Unit
  |g::gs=>Den g.t×Args gs
def QzQ(g:Sig)(x:V1):Option (Den g.t):=match g.ag,x with
 |false,.c c=>match Qb3 (fun _=>none) g.t [c] with
  |some (d,_)=>(match cells g.t d with| [_]=>some d|_=>none)
  |none=>none
 |true,.agg cs=>match Qb3 (fun _=>none) g.t cs with
  |some (d,_)=>some d
  |none=>none
 |_,_=>none
def QcF(g:Sig)(d:Den g.t):V1:=match g.ag with
 |true=>.agg (cells g.t d)
 |false=>match cells g.t d with
  | [c]=>.c c
  |cs=>.agg cs
def Qdq:(gs:List Sig)→List V1→Option (Args gs)
 | [],[]=>some ()
 |g::gs,x::xs=>match QzQ g x with
  |some d=>(match Qdq gs xs with|some r=>some (d,r)|none=>none)
  |none=>none
 |_,_=>none
def QaM:(gs:List Sig)→Args gs→List V1
 | [],_=>[]
 |g::gs,(a,r)=>QcF g a::QaM gs r
def QcN:(gs:List Sig)→(Args gs→Prop)→Prop
 | [],p=>p ()
 |g::gs,p=>∀a:Den g.t,QcN gs fun r=>p (a,r)
theorem QcN.out:∀{gs:List Sig} {p:Args gs→Prop},QcN gs p→∀x,p x
 | [],_,h,()=>h
 |_::_,_,h,(a,r)=>QcN.out (h a) r
theorem QoB{E:Env}(hH:HeapOk E)(hn:∀b,E.H b=none){g:Sig}{x:V1}{d:Den g.t}{v:Value}(h:QzQ g x=some d)(hv:V1R E x v):V1R E (QcF g d) v:=by
 have su:∀{us:List Nat} {t:Ty} {x:Den t} {vs:List Value},CR E.w (SU E us) t x vs→CR E.w E.S t x vs:=by
  intro us t x vs hc;refine hc.mono fun g hg=>⟨?_,rfl⟩
  rcases hg with hg|⟨u,x,_,hx,_⟩
  ·exact hg
  ·rw[hn] at hx;cases hx
 have dec:∀{cs:List Cell} {vs:List Value} {t:Ty} {d:Den t} {us:List Nat},Qb3 (fun _=>none) t cs=some (d,us)→IR E cs vs→IR E (cells t d) vs :=
  fun h hr=>(su (QbF hH (fun b x hx=>by cases hx) h hr)).items
 unfold QzQ at h;unfold QcF;split at h
 ·rename_i c hg;rw[hg];split at h
  ·rename_i d' us hd;split at h
   ·rename_i c' hc;injection h with h
    subst h;have:=dec hd (show IR E [c] [v] from⟨[v],[],rfl,hv,rfl⟩);simp only[hc];rw[hc] at this;obtain⟨r,s,e,h1,h2⟩:=this;simp only[IR] at h2;subst h2;simp at e;subst e;exact h1
   ·cases h
  ·cases h
 ·rename_i cs hg;rw[hg];split at h
  ·rename_i d' us hd;injection h with h
   subst h;obtain⟨vals,e,hi⟩:=hv;exact⟨vals,e,dec hd hi⟩
  ·cases h
 ·cases h
theorem QeW{E:Env}(hH:HeapOk E)(hn:∀b,E.H b=none):∀{gs:List Sig} {xs:List V1} {ds:Args gs} {vs:List Value},Qdq gs xs=some ds→VsR E xs vs→VsR E (QaM gs ds) vs
 | [],[],_,_,_,hv=>hv
 |g::gs,x::xs,ds,_,h,⟨v,r,e,h1,h2⟩=>by
  unfold Qdq at h;split at h
  ·rename_i d hd;split at h
   ·rename_i rs hr;injection h with h
    subst h;exact⟨v,r,e,QoB hH hn hd h1,QeW hH hn hr h2⟩
   ·cases h
  ·cases h
 | [],_::_,_,_,h,_=>by simp[Qdq] at h
 |_::_,[],_,_,h,_=>by simp[Qdq] at h
structure PSpec where
 gs:List Sig
 out:Args gs→Option Prop×AV×List Blk
def PSpec.spec(s:PSpec):CSpec:={ wr:=false,run:=fun args bl=>match bl with
 | []=>match Qdq s.gs args with
   |some xs=>some ((s.out xs).1,(s.out xs).2.1,[],(s.out xs).2.2)
   |none=>none
 |_::_=>none }
def Qi7(P:Program)(T:Tab)(fn:Func)(args:List V1)(bl:List Blk)(r:AV)(upd:List (Option Blk))(fresh:List Blk):Prop:=match fn.body with
 |some c=>QD4 args fun args=>Qqu bl fun bl=>fSt (st0 fn.ntmps args bl) fun st=>ex P T bl.length c st (QHD P T bl.length fn r upd fresh)
 |none=>False
theorem PSpec.sound{f:FuncId}{fn:Func}(hT:TabOk P T)(hP:Q9 P T)(hf:P.funcs[f]?=some fn)(hn:(fn.name == "runtime.NumGoroutine")=false)(s:PSpec)
 (h:QcN s.gs fun xs=>(∀q,(s.out xs).1=some q→q)→Qi7 P T fn (QaM s.gs xs) [] (s.out xs).2.1 [] (s.out xs).2.2) (hb:fn.body.isSome=true):CSound P f s.spec∧Enters P f:=by
 refine⟨?_,fn,hf,hn,hb⟩;obtain⟨c,hc⟩:=Option.isSome_iff_exists.1 hb;refine QjR hT hf hc _ fun args bl p r upd fresh hrun hp=>?_
 unfold PSpec.spec at hrun;simp only at hrun;split at hrun
 ·split at hrun
  ·rename_i xs hxs;simp only[Option.some.injEq,Prod.mk.injEq] at hrun;obtain⟨rfl,rfl,rfl,rfl⟩:=hrun;refine⟨_,fun E vs hok hH hv=>QeW hok (fun b=>by rw[hH];simp) hxs hv,?_⟩;have:=h.out xs hp;unfold Qi7 at this;rw[hc] at this;simp only[Qhg,Qfk,Qbd] at this;exact QgS hT hP c this
  ·cases hrun
 ·cases hrun
end
def orB:List Bool→List Bool→List Bool
 | [],l=>l
 |a::x,[]=>a::x
 |a::x,b::y=>(match a with|true=>true|false=>b)::orB x y
def QBB:Nat→List Bool
 |0=>[true]
 |j+1=>false::QBB j
def QdO:List Bool→Nat→Bool
 | [],_=>false
 |b::_,0=>b
 |_::r,n+1=>QdO r n
def Qcn:List (List Bool)→Nat→List Bool
 | [],_=>[]
 |b::_,0=>b
 |_::r,n+1=>Qcn r n
def QjS(As:List (List Bool)):List Edge→List Bool
 | []=>[]
 |e::r=>match Region.binds .any e with
  |true=>orB (orB (QBB e.on) (Qcn As e.on)) (QjS As r)
  |false=>QjS As r
def Qi8:List Bool→(List Bool→Prop)→Prop
 | [],k=>k []
 |true::cs,k=>Qi8 cs fun cs=>k (true::cs)
 |false::cs,k=>Qi8 cs fun cs=>k (false::cs)
def Qdr:List Oper→List (List Bool)→(List (List Bool)→Prop)→Prop
 | [],As,K=>K As
 |o::r,As,K=>Qi8 (QjS As o.after.toList) fun A=>fL (As++[A]) fun As=>Qdr r As K
inductive W1 where
 |no|any|only(l:List Nat)
def QwJ:W1→Nat→Bool
 |.no,_=>false
 |.any,_=>true
 |.only l,b=>memN b l
def Qr5:List W1→Nat→W1
 | [],_=>.no
 |b::_,0=>b
 |_::r,n+1=>Qr5 r n
def fW:W1→(W1→Prop)→Prop
 |.no,k=>k .no
 |.any,k=>k .any
 |.only l,k=>Qsh l fun l=>k (.only l)
def fWs:List W1→(List W1→Prop)→Prop
 | [],k=>k []
 |c::cs,k=>fW c fun c=>fWs cs fun cs=>k (c::cs)
def Qxa(t:Tmp):List Oper→Option (Op×List Oper)
 | []=>none
 |o::os=>match o.dst with
  |some d=>(match Nat.beq d t with|true=>some (o.op,os)|false=>Qxa t os)
  |none=>Qxa t os
def Qm4:Nat→Nat→List Nat
 |_,0=>[]
 |a,n+1=>a::Qm4 (a+1) n
def QeK(st:St):Nat→List Oper→Operand→W1
 |0,_,_=>.any
 |f+1,ops,x=>match x with
  |.tmp t=>match Qxa t ops with
   |some (.fieldAddr _ y _,os)=>QeK st f os y
   |some (.indexAddr _ y _,os)=>QeK st f os y
   |some (.move y,os)=>QeK st f os y
   |some (.nilCheck y,os)=>QeK st f os y
   |some (.assign y,os)=>QeK st f os y
   |some (.binOp ..,_)=>.only []
   |some (.buildSlice ..,_)=>.only (Qm4 st.heap.length 24)
   |some (.call c,_)=>(match c.callee with|.builtin b=>(match b with|.len=>.only []|.max=>.only []|.min=>.only []|_=>.any)|_=>.any)
   |some _=>.any
   |none=>match st.tmp t with
    |.one (.c (.ptr b _))=>.only [b]
    |.one (.c (.pel b _ _))=>.only [b]
    |.one (.c (.pidx b _ _))=>.only [b]
    |.one (.c (.own b))=>.only [b]
    |.one (.c (.sub b _ _))=>.only [b]
    |.one (.c (.svar b _ _))=>.only [b]
    |.one (.c (.map b))=>.only [b]
    |.one (.c (.imm _))=>.only []
    |.one (.c (.ro _ _))=>.only []
    |_=>.any
  |_=>.only []
def QBC(st:St)(ops:List Oper):List Operand→Option (List Nat)
 | []=>some []
 |a::r=>match QeK st 6 ops a with
  |.only l=>(match QBC st ops r with|some m=>some (l++m)|none=>none)
  |_=>none
def QEk(st:St)(ops:List Oper)(args:List Operand):W1:=match QBC st ops args with
 |some l=>(match reach st.look 100 l [] with|some acc=>.only acc|none=>.any)
 |none=>.any
def QKt(st:St)(ops:List Oper)(args:List Operand):W1:=match QEk st ops (args.take 1) with
 |.any=>(match args with|a::_=>QeK st 6 ops a | []=>.any)
 |w=>w
def QjT(st:St):Nat→List Oper→Operand→Option (FuncId×List Nat)
 |0,_,_=>none
 |f+1,ops,x=>match x with
  |.func g=>some (g,[])
  |.tmp t=>match Qxa t ops with
   |some (.move y,os)=>QjT st f os y
   |some (.assign y,os)=>QjT st f os y
   |some _=>none
   |none=>match st.tmp t with
    |.one (.c (.fn g caps))=>some (g,caps)
    |_=>none
  |_=>none
def QHE(st:St)(ops:List Oper)(args:List Operand)(caps:List Nat):W1:=match QBC st ops args with
 |some l=>(match reach st.look 100 (l++caps) [] with|some acc=>.only acc|none=>.any)
 |none=>.any
def QEl(T:Tab)(st:St)(t:TypeId):W1:=match Qhe T t with
 |some (u,_)=>(match u.flat with|true=>.no|false=>.only (Qm4 st.heap.length 24))
 |none=>.no
def QKu(T:Tab)(st:St)(ops:List Oper)(o:Oper):W1:=match o.op with
 |.store _ a _=>QeK st 6 ops a
 |.mapUpdate _ m _ _=>QeK st 6 ops m
 |.insert _ m _ _=>QeK st 6 ops m
 |.buildSlice t _ _=>QEl T st t
 |.call c=>match c.callee with
  |.builtin b=>(match b with|.append=>QKt st ops c.args.toList|.copy=>QEk st ops (c.args.toList.take 1)|_=>.no)
  |.value f=>(match QjT st 6 ops f with|some (g,caps)=>(match T.fn g with|some s=>(match s.wr||s.eat with|true=>QHE st ops c.args.toList caps|false=>.no)|none=>.any)|none=>.any)
  |_=>.any
 |_=>.no
def effs(T:Tab)(st:St)(ops:List Oper):List Oper→List W1
 | []=>[]
 |o::r=>QKu T st ops o::effs T st (o::ops) r
def QqK(i:Nat):List W1→List (List Bool)→List Bool→List Nat→List W1
 |e::es,As,A,k::ks=>match e with
  |.no=>QqK i es (As.drop 1) (A.drop 1) ks
  |e=>match Nat.beq k i with
   |true=>QqK i es (As.drop 1) (A.drop 1) ks
   |false=>match QdO A 0 with
    |true=>QqK i es (As.drop 1) (A.drop 1) ks
    |false=>match QdO (Qcn As 0) i with
     |true=>QqK i es (As.drop 1) (A.drop 1) ks
     |false=>e::QqK i es (As.drop 1) (A.drop 1) ks
 | [],_,_,_=>[]
 |_::_,_,_,[]=>[.any]
def Qxb:List W1→Nat→Bool
 | [],_=>false
 |c::r,b=>match QwJ c b with|true=>true|false=>Qxb r b
def QoC(e:W1):List (Nat×Option Blk)→Bool
 | []=>true
 |(n,_)::r=>match QwJ e n with|true=>QoC e r|false=>false
def QbZ(i:Nat)(t:Tmp):List Oper→List (List Bool)→List Bool→List Nat→Bool
 |o::os,As,A,k::ks=>match o.dst with
  |some d=>match Nat.beq d t with
   |true=>match QdO A 0 with
    |true=>QbZ i t os (As.drop 1) (A.drop 1) ks
    |false=>match QdO (Qcn As 0) i with
     |true=>QbZ i t os (As.drop 1) (A.drop 1) ks
     |false=>match Nat.beq k i with
      |true=>QbZ i t os (As.drop 1) (A.drop 1) ks
      |false=>true
   |false=>QbZ i t os (As.drop 1) (A.drop 1) ks
  |none=>QbZ i t os (As.drop 1) (A.drop 1) ks
 | [],_,_,_=>false
 |_::_,_,_,[]=>true
def QgL(inc:List W1)(A:List Bool)(b:Nat):List (Nat×Nat×Nat)→Bool
 | []=>Qxb inc b
 |(k,n,c)::r=>match Nat.ble n b&&Nat.blt b (n+c) with
  |true=>(match QdO A k with|true=>QgL inc A b r|false=>true)
  |false=>QgL inc A b r
def QgT(lk:Nat→Option Blk):List (Nat×Option Blk)→Bool
 | []=>true
 |(n,_)::r=>match lk n with|none=>false|some _=>QgT lk r
def Qfs(own:List (Nat×Nat×Nat))(i nm:Nat):List Blk→List (Nat×Nat×Nat)
 | []=>own
 |b::r=>(i,nm,r.length+1)::own
def Qm5(i:Nat)(o:Oper)(ops:List Oper)(As:List (List Bool))(A:List Bool):Bool:=match o.dst with
 |none=>true
 |some d=>match QbZ i d (ops.take i) As A lits with|true=>false|false=>true
def Qxc:List Bool→Nat→Bool
 | [],_=>true
 |_::_,0=>false
 |_::r,n+1=>Qxc r n
def Qhu(st:St)(hide:Tmp→Bool)(x:Operand):AV:=match x with
 |.tmp t=>(match hide t with|true=>.dead|false=>st.tmp t)
 |.const v=>Qn3 v
 |.func f=>.cell (.fn f [])
 |.global _=>.dead
def QcG(st:St)(hb:Nat→Bool)(b:Nat):Option Blk:=match hb b with|true=>none|false=>st.look b
def doM(T:Tab)(o:Oper)(ht:Tmp→Bool)(hb:Nat→Bool)(eff:W1)(nm:Nat)(st:St)(K:St→List Blk→Prop):Prop :=
 match dstep T (Qhu st ht) (QcG st hb) nm o with
 |some r=>need r.pre (QGY r fun v add set=>match QgT (QcG st hb) set&&QoC eff set with
  |true=>fSt ((st.act nm { pre:=none,val:=v,add:=add,set:=set }).put o.dst v) fun st=>K st add
  |false=>False)
 |none=>False
def exM(T:Tab)(ops:Array Oper)(As:List (List Bool))(efs:List W1):List Oper→List Nat→List (Nat×Nat×Nat)→St→(St→Prop)→Prop
 | [],_,_,st,K=>K st
 |_::_,[],_,_,_=>False
 |o::r,i::is,own,st,K =>
  match Qxc (Qcn As i) i&&Qm5 i o ops.toList As (Qcn As i) with
  |false=>False
  |true=>fWs (QqK i efs As (Qcn As i) lits) fun inc =>
   match Qav ops o with
   |none=>False
   |some none=>Qau lits st.heap st.heap.length fun nm =>
    doM T o (fun t=>QbZ i t ops.toList As (Qcn As i) lits) (fun b=>QgL inc (Qcn As i) b own) (Qr5 efs i) nm st fun st' add=>exM T ops As efs r is (Qfs own i nm add) st' K
   |some (some (d,want))=>match Qhu st (fun t=>QbZ i t ops.toList As (Qcn As i) lits) (.tmp d) with
    |.one (.c (.imm (.bool b)))=>Br b
     (fSt (st.put (some d) (.cell (bv true))) fun st=>match want with
       |true=>Qau lits st.heap st.heap.length fun nm =>
        doM T o (fun t=>QbZ i t ops.toList As (Qcn As i) lits) (fun b=>QgL inc (Qcn As i) b own) (Qr5 efs i) nm st fun st' add=>exM T ops As efs r is (Qfs own i nm add) st' K
       |false=>fSt (st.put o.dst (.tup [])) fun st=>exM T ops As efs r is own st K)
     (fSt (st.put (some d) (.cell (bv false))) fun st=>match want with
       |false=>Qau lits st.heap st.heap.length fun nm =>
        doM T o (fun t=>QbZ i t ops.toList As (Qcn As i) lits) (fun b=>QgL inc (Qcn As i) b own) (Qr5 efs i) nm st fun st' add=>exM T ops As efs r is (Qfs own i nm add) st' K
       |true=>fSt (st.put o.dst (.tup [])) fun st=>exM T ops As efs r is own st K)
    |.tup []=>fSt (st.put o.dst (.tup [])) fun st=>exM T ops As efs r is own st K
    |_=>False
def exD(T:Tab)(ops:Array Oper)(st:St)(K:St→Prop):Prop :=
 Qdr ops.toList [] fun As=>fWs (effs T st [] ops.toList) fun efs=>exM T ops As efs ops.toList lits [] st K
theorem Qhv:∀(l:List Bool) (k:List Bool→Prop),Qi8 l k=k l
 | [],k=>rfl
 |true::ns,k=>by unfold Qi8;rw[Qhv ns]
 |false::ns,k=>by unfold Qi8;rw[Qhv ns]
theorem Qm6:∀{a b:List Bool} {j:Nat},QdO (orB a b) j=true→QdO a j=true∨QdO b j=true
 | [],_,_,h=>.inr h
 |_::_,[],_,h=>.inl h
 |a::x,b::y,0,h=>by cases a<;>simp_all [orB,QdO]
 |a::x,b::y,j+1,h=>Qm6 (a:=x) (b:=y) (j:=j) h
theorem Qhw:∀{a b:List Bool} {j:Nat},QdO a j=true→QdO (orB a b) j=true
 | [],_,_,h=>by cases h
 |_::_,[],_,h=>h
 |a::x,b::y,0,h=>by cases a<;>simp_all [orB,QdO]
 |a::x,b::y,j+1,h=>Qhw (a:=x) (b:=y) (j:=j) h
theorem Qls:∀{a b:List Bool} {j:Nat},QdO b j=true→QdO (orB a b) j=true
 | [],_,_,h=>h
 |_::_,[],_,h=>by cases h
 |a::x,b::y,0,h=>by cases a<;>simp_all [orB,QdO]
 |a::x,b::y,j+1,h=>Qls (a:=x) (b:=y) (j:=j) h
theorem QjU:∀{i j:Nat},QdO (QBB i) j=true↔j=i
 |0,0=>by simp[QBB,QdO]
 |0,j+1=>by simp[QBB,QdO]
 |i+1,0=>by simp[QBB,QdO]
 |i+1,j+1=>by simp[QBB,QdO,QjU]
theorem QoD:∀{l:List Bool} {i j:Nat},Qxc l i=true→QdO l j=true→j<i
 | [],_,_,_,h=>by cases h
 |_::_,0,_,h,_=>by cases h
 |_::r,n+1,0,_,_=>by omega
 |_::r,n+1,j+1,h,h'=>by have:=QoD (l:=r) (i:=n) (j:=j) h h';omega
theorem Qhx:∀{a b:List (List Bool)} {k:Nat},Qcn a k≠[]→Qcn (a++b) k=Qcn a k
 | [],_,_,h=>absurd rfl h
 |x::a,b,0,_=>rfl
 |x::a,b,k+1,h=>Qhx (a:=a) (b:=b) (k:=k) h
theorem Qm7:∀{a:List (List Bool)} {k:Nat} {x:List Bool},a[k]?=some x→Qcn a k=x
 | [],_,_,h=>by simp at h
 |y::a,0,_,h=>by simp at h;exact h
 |y::a,k+1,_,h=>Qm7 (a:=a) (k:=k) (by simpa using h)
theorem QjV{As:List (List Bool)}{j:Nat}:∀{l:List Edge},QdO (QjS As l) j=true→∃e∈l,Region.binds .any e=true∧(j=e.on∨QdO (Qcn As e.on) j=true)
 | [],h=>by cases h
 |e::r,h=>by
  unfold QjS at h;split at h
  ·rename_i hb;rcases Qm6 h with h|h
   ·rcases Qm6 h with h|h
    ·exact⟨e,by simp,hb,.inl (QjU.1 h)⟩
    ·exact⟨e,by simp,hb,.inr h⟩
   ·obtain⟨e',h1,h2⟩:=QjV h;exact⟨e',by simp[h1],h2⟩
  ·obtain⟨e',h1,h2⟩:=QjV h;exact⟨e',by simp[h1],h2⟩
theorem QjW{As:List (List Bool)}:∀{l:List Edge} {e:Edge},e∈l→Region.binds .any e=true→QdO (QjS As l) e.on=true
 |e'::r,e,h,hb=>by
  unfold QjS;rcases List.mem_cons.1 h with rfl|h
  ·rw[hb];exact Qhw (Qhw (QjU.2 rfl))
  ·split
   ·exact Qls (QjW h hb)
   ·exact QjW h hb
structure AncOk(ops:List Oper)(As:List (List Bool)):Prop where
 out:∀(i:Nat) o,ops[i]?=some o→∀j,QdO (Qcn As i) j=true→∃e∈o.after,Region.binds .any e=true∧(j=e.on∨QdO (Qcn As e.on) j=true)
 in_:∀(i:Nat) o,ops[i]?=some o→∀e∈o.after,Region.binds .any e=true→QdO (Qcn As i) e.on=true
theorem QgD:∀(l:List Oper) (As:List (List Bool)) {K:List (List Bool)→Prop},Qdr l As K→∃Bs,K (As++Bs)∧∀(i:Nat) o,l[i]?=some o→Bs[i]?=some (QjS (As++Bs.take i) o.after.toList)
 | [],As,K,h=>⟨[],by simpa[Qdr] using h,fun i o ho=>by simp at ho⟩
 |o::r,As,K,h=>by
  unfold Qdr at h;rw[Qhv,QwQ] at h;obtain⟨Bs,h1,h2⟩:=QgD r _ h;refine⟨QjS As o.after.toList::Bs,by simpa using h1,fun i o' ho=>?_⟩;cases i with
  |zero=>simp at ho;subst ho;simp
  |succ i=>have:=h2 i o' (by simpa using ho);simpa using this
theorem QHF{ops:List Oper}{K:List (List Bool)→Prop}(h:Qdr ops [] K):∃As,K As∧AncOk ops As:=by
 obtain⟨Bs,h1,h2⟩:=QgD ops [] h;simp only[List.nil_append] at h1 h2;refine⟨Bs,h1,fun i o ho j hj=>?_,fun i o ho e he hb=>?_⟩
 ·rw[Qm7 (h2 i o ho)] at hj;obtain⟨e,he,hb,hh⟩:=QjV hj;refine⟨e,by simpa using he,hb,hh.imp id fun hh=>?_⟩;have hne:Qcn (Bs.take i) e.on≠[]:=fun e=>by rw[e] at hh;cases hh
  have:=Qhx (b:=Bs.drop i) hne;rw[List.take_append_drop] at this;rw[this];exact hh
 ·rw[Qm7 (h2 i o ho)];exact QjW (by simpa using he) hb
theorem Qlt:∀(A:List Bool) (j:Nat),QdO (A.drop 1) j=QdO A (j+1)
 | [],_=>rfl
 |_::_,_=>rfl
theorem Qlu:∀(A:List (List Bool)) (j:Nat),Qcn (A.drop 1) j=Qcn A (j+1)
 | [],_=>rfl
 |_::_,_=>rfl
theorem QjX{i:Nat}{t:Tmp}:∀{ops:List Oper} {As:List (List Bool)} {A:List Bool} {ks:List Nat} {c:Nat},(∀(j n:Nat),ks[j]?=some n→n=c+j)→QbZ i t ops As A ks=false→∀(k:Nat) o,ops[k]?=some o→o.dst=some t→c+k≠i→QdO A k=true∨QdO (Qcn As k) i=true
 | [],_,_,_,_,_,_,k,o,ho,_,_=>by simp at ho
 |_::_,_,_,[],_,_,h,_,_,_,_,_=>by simp[QbZ] at h
 |o'::os,As,A,n::ks,c,hk,h,k,o,ho,hd,hne=>by
  have hn:n=c:=by simpa using hk 0 n rfl
  subst hn
  have rest:QbZ i t os (As.drop 1) (A.drop 1) ks=false:=by
   unfold QbZ at h;split at h
   ·split at h
    ·split at h
     ·exact h
     ·split at h
      ·exact h
      ·split at h
       ·exact h
       ·cases h
    ·exact h
   ·exact h
  cases k with
  |succ k =>
   have:=QjX (c:=n+1) (fun j m hm=>by have:=hk (j+1) m (by simpa using hm);omega) rest k o (by simpa using ho) hd (by omega);rwa[Qlt,Qlu] at this
  |zero =>
   simp at ho;subst ho;unfold QbZ at h;rw[hd] at h;simp only[Nat.beq_refl] at h;split at h
   ·exact .inl ‹_›
   ·split at h
    ·exact .inr ‹_›
    ·split at h
     ·rename_i hb;exact absurd (Nat.eq_of_beq_eq_true hb) (by omega)
     ·cases h
theorem QHG(w:W1)(k:W1→Prop):fW w k=k w:=by cases w<;>simp only[fW,QjF]
theorem QsE:∀(l:List W1) (k:List W1→Prop),fWs l k=k l
 | [],k=>rfl
 |c::cs,k=>by unfold fWs;rw[QHG,QsE cs]
theorem Qlv{c:W1}{r:List W1}{b:Nat}(h:Qxb (c::r) b=false):QwJ c b=false∧Qxb r b=false:=by
 unfold Qxb at h;split at h
 ·cases h
 ·exact⟨‹_›,h⟩
theorem QsF{i b:Nat}:∀{es:List W1} {As:List (List Bool)} {A:List Bool} {ks:List Nat} {c:Nat},(∀(j n:Nat),ks[j]?=some n→n=c+j)→Qxb (QqK i es As A ks) b=false→∀k,QwJ (Qr5 es k) b=true→c+k≠i→QdO A k=true∨QdO (Qcn As k) i=true
 | [],_,_,_,_,_,_,k,hk,_=>by cases hk
 |_::_,_,_,[],_,_,h,_,_,_=>by simp[QqK,Qxb,QwJ] at h
 |e::es,As,A,n::ks,c,hk,h,k,he,hne=>by
  have hn:n=c:=by simpa using hk 0 n rfl
  subst hn
  have rest:Qxb (QqK i es (As.drop 1) (A.drop 1) ks) b=false:=by
   unfold QqK at h;split at h
   ·exact h
   ·split at h
    ·exact h
    ·split at h
     ·exact h
     ·split at h
      ·exact h
      ·exact(Qlv h).2
  cases k with
  |succ k =>
   have:=QsF (c:=n+1) (fun j m hm=>by have:=hk (j+1) m (by simpa using hm);omega) rest k he (by omega);rwa[Qlt,Qlu] at this
  |zero =>
   have he:QwJ e b=true:=he;unfold QqK at h;split at h
   ·cases he
   ·split at h
    ·rename_i hb;exact absurd (Nat.eq_of_beq_eq_true hb) (by omega)
    ·split at h
     ·exact .inl ‹_›
     ·split at h
      ·exact .inr ‹_›
      ·rw[(Qlv h).1] at he;cases he
theorem Qlw{e:W1}:∀{l:List (Nat×Option Blk)},QoC e l=true→∀n o,(n,o)∈l→QwJ e n=true
 | [],_,n,o,h=>by cases h
 |(n',o')::r,h,n,o,hm=>by
  unfold QoC at h;split at h
  ·rename_i hf;rcases List.mem_cons.1 hm with e|hm
   ·injection e with e1 e2;subst e1;exact hf
   ·exact Qlw h n o hm
  ·cases h
theorem QjY{inc:List W1}{A:List Bool}{b:Nat}:∀{own:List (Nat×Nat×Nat)},QgL inc A b own=false→Qxb inc b=false∧∀k n c,(k,n,c)∈own→n≤b→b<n+c→QdO A k=true
 | [],h=>⟨h,fun k n c hm=>by cases hm⟩
 |(k',n',c')::r,h=>by
  unfold QgL at h;split at h
  ·split at h
   ·rename_i hk;obtain⟨h1,h2⟩:=QjY h;refine⟨h1,fun k n c hm h3 h4=>?_⟩;rcases List.mem_cons.1 hm with e|hm
    ·injection e with e1 e2;subst e1;exact hk
    ·exact h2 k n c hm h3 h4
   ·cases h
  ·rename_i hf;obtain⟨h1,h2⟩:=QjY h;refine⟨h1,fun k n c hm h3 h4=>?_⟩;rcases List.mem_cons.1 hm with e|hm
   ·injection e with e1 e2
    injection e2 with e2 e3
    subst e1;subst e2;subst e3
    have:(Nat.ble n b&&Nat.blt b (n+c))=true:=by
     rw[Bool.and_eq_true];exact⟨by rw[Nat.ble_eq];exact h3,by unfold Nat.blt;rw[Nat.ble_eq];omega⟩
    rw[this] at hf;cases hf
   ·exact h2 k n c hm h3 h4
theorem Qhy{lk:Nat→Option Blk}:∀{l:List (Nat×Option Blk)},QgT lk l=true→∀n o,(n,o)∈l→∃x,lk n=some x
 | [],_,n,o,h=>by cases h
 |(n',o')::r,h,n,o,hm=>by
  unfold QgT at h;split at h
  ·cases h
  ·rename_i x hf;rcases List.mem_cons.1 hm with e|hm
   ·injection e with e1 e2;subst e1;exact⟨x,hf⟩
   ·exact Qhy h n o hm
theorem QjZ(j n:Nat)(h:lits[j]?=some n):n=0+j:=by
 have e:lits=List.range lits.length:=by decide +kernel
 rw[e] at h;rcases Nat.lt_or_ge j lits.length with h1|h1
 ·rw[List.getElem?_range h1] at h;injection h with h;omega
 ·rw[List.getElem?_eq_none (by simpa using h1)] at h;cases h
end Go.Fw

