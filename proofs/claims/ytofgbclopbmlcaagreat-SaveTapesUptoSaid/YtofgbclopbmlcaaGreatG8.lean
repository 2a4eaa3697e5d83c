/- Part 8 of the proof. Conditions: none. -/
import Derived.Test.YtofgbclopbmlcaaGreatG7
namespace Go.Fw
set_option linter.unusedVariables false
set_option linter.unusedSimpArgs false
def memN(b:Nat):List Nat→Bool
 | []=>false
 |x::r=>match Nat.beq b x with|true=>true|false=>memN b r
theorem Qd2{b:Nat}:∀{l:List Nat},memN b l=true→b∈l
 | [],h=>by cases h
 |x::r,h=>by
  unfold memN at h;split at h
  ·rename_i hb;rw[Yg hb];simp
  ·exact YP _ (Qd2 h)
theorem Qgk{b:Nat}:∀{l:List Nat},memN b l=false→b∉l
 | [],h=>by simp
 |x::r,h=>by
  unfold memN at h;split at h
  ·cases h
  ·rename_i hb;have:=Qgk h;intro hm;rcases Yt.1 hm with rfl|hm
   ·simp at hb
   ·exact this hm
section
variable (look:Nat→Option Blk) (us:List Nat)
def fzC(c:Cell):Cell:=match c with
 |.own b=>match memN b us with
  |true=>match Qax look (.own b) with|some ⟨t,l⟩=>.ro t l|none=>.own b
  |false=>.own b
 |.sub b o n=>match memN b us with
  |true=>match Qax look (.sub b o n) with|some ⟨t,l⟩=>.ro t l|none=>.sub b o n
  |false=>.sub b o n
 |c=>c
def fzV:V1→V1
 |.c x=>.c (fzC look us x)
 |.agg cs=>.agg (cs.map (fzC look us))
def fzA:AV→AV
 |.dead=>.dead
 |.one v=>.one (fzV look us v)
 |.tup l=>.tup (l.map (fzV look us))
def fzB:Blk→Blk
 |.arr t l=>.arr t l
 |.var cs=>.var (cs.map (fzC look us))
 |.mp ka kt vt l=>.mp ka kt vt l
def inN(acc:List Nat):List Nat→Bool
 | []=>true
 |x::r=>match memN x acc with|true=>inN acc r|false=>false
def QoK:List Nat→Bool
 | []=>true
 |x::r=>match memN x r with|true=>false|false=>QoK r
def Qxx:Nat→Nat→List Nat→Bool
 |0,_,_=>true
 |_+1,_,[]=>false
 |m+1,k,x::r=>match Nat.beq x k with|true=>Qxx m (k+1) r|false=>false
def QeO(m:Nat)(acc:List Nat):Bool:=match QoK acc with|true=>Qxx m 0 acc|false=>false
def QoL(acc:List Nat):List Nat→Bool
 | []=>true
 |n::r=>match memN n us with
  |true=>QoL acc r
  |false=>match look n with
   |some x=>(match inN acc (fzB look us x).names with|true=>QoL acc r|false=>false)
   |none=>QoL acc r
def wkB(acc:List Nat)(n:Nat):Option Blk:=match memN n us with
 |true=>none
 |false=>match look n with
  |some x=>some ((fzB look us x).rn (idx acc))
  |none=>none
def wkH(acc:List Nat):List (Option Blk):=acc.map (wkB look us acc)
end
theorem Qnh{acc:List Nat}:∀{l:List Nat},inN acc l=true→∀x∈l,x∈acc
 | [],_,x,hx=>by cases hx
 |y::r,h,x,hx=>by
  unfold inN at h;split at h
  ·rename_i hy;rcases Yt.1 hx with rfl|hx
   ·exact Qd2 hy
   ·exact Qnh h x hx
  ·cases h
theorem QlC:∀{l:List Nat},QoK l=true→l.Nodup
 | [],_=>List.nodup_nil
 |x::r,h=>by
  unfold QoK at h;split at h
  ·cases h
  ·rename_i hx;exact List.nodup_cons.2 ⟨Qgk hx,QlC h⟩
theorem QoM:∀{m k:Nat} {l:List Nat},Qxx m k l=true→∀i,i<m→l[i]?=some (k+i)
 |0,_,_,_,i,hi=>by omega
 |_+1,_,[],h,_,_=>by cases h
 |m+1,k,x::r,h,i,hi=>by
  unfold Qxx at h;split at h
  ·rename_i hx;cases i with
   |zero=>simp[Yg hx]
   |succ i=>have:=QoM h i (by omega);simp[this];omega
  ·cases h
theorem Qs3{m:Nat}{acc:List Nat}(h:QeO m acc=true):acc.Nodup∧∀i,i<m→acc[i]?=some i:=by
 unfold QeO at h;split at h
 ·rename_i h1;exact⟨QlC h1,fun i hi=>by have:=QoM h i hi;simpa using this⟩
 ·cases h
theorem Qs4{look:Nat→Option Blk}{us acc:List Nat}:∀{l:List Nat},QoL look us acc l=true→∀n∈l,n∉us→∀x,look n=some x→∀k∈(fzB look us x).names,k∈acc
 | [],_,n,hn=>by cases hn
 |y::r,h,n,hn=>by
  intro hu x hx k hk;unfold QoL at h;rcases Yt.1 hn with rfl|hn
  ·split at h
   ·rename_i hm;exact YD (Qd2 hm) hu
   ·rw[hx] at h;simp only at h;split at h
    ·rename_i hi;exact Qnh hi k hk
    ·cases h
  ·have:QoL look us acc r=true:=by
    split at h
    ·exact h
    ·split at h
     ·split at h
      ·exact h
      ·cases h
     ·exact h
   exact Qs4 this n hn hu x hx k hk
section
variable {E:Env} {look:Nat→Option Blk} {us:List Nat}
theorem Qs5(hH:HeapOk E)(hl:∀b,E.H b=look b){c:Cell}{vs:List Value}(hc:QaI E c vs):QaI (QO E us) (fzC look us c) vs:=by
 have hl':∀b x,look b=some x→E.H b=some x:=fun b x h=>(hl b).trans h
 have key:∀{c:Cell} {t:Ty} {l:List (Den t)} {v:Value},(∀n∈c.names,n∈us)→Qax look c=some ⟨t,l⟩→QaI E c [v]→QaI (QO E us) (.ro t l) [v]:=by
  intro c t l v hn h hc;refine⟨v,rfl,?_⟩;exact(Qcm hH hl' h hc).mono (fun g hg=>⟨SU.mono hn hg,rfl⟩) fun _ _ hx=>hx.su
 unfold fzC;split
 ·rename_i b;split
  ·rename_i hb;split
   ·rename_i t l hs;have hc':=hc;obtain⟨v,⟨e,_⟩,_⟩:=hc';subst e;exact key (fun n hn=>by simp[Cell.names] at hn;subst hn;exact Qd2 hb) hs hc
   ·exact hc.ext (Qae us)
  ·exact hc.ext (Qae us)
 ·rename_i b o n;split
  ·rename_i hb;split
   ·rename_i t l hs;have hc':=hc;obtain⟨v,⟨e,_⟩,_⟩:=hc';subst e;exact key (fun n hn=>by simp[Cell.names] at hn;subst hn;exact Qd2 hb) hs hc
   ·exact hc.ext (Qae us)
  ·exact hc.ext (Qae us)
 ·exact hc.ext (Qae us)
theorem QI6(hH:HeapOk E)(hl:∀b,E.H b=look b):∀{cs:List Cell} {vs:List Value},IR E cs vs→IR (QO E us) (cs.map (fzC look us)) vs
 | [],_,h=>h
 |_::_,_,⟨r,s,e,h1,h2⟩=>⟨r,s,e,Qs5 hH hl h1,QI6 hH hl h2⟩
theorem Qs6(hH:HeapOk E)(hl:∀b,E.H b=look b):{x:V1}→{v:Value}→V1R E x v→V1R (QO E us) (fzV look us x) v
 |.c _,_,h=>Qs5 hH hl h
 |.agg _,_,⟨vals,e,h⟩=>⟨vals,e,QI6 hH hl h⟩
theorem QLb(hH:HeapOk E)(hl:∀b,E.H b=look b):∀{xs:List V1} {vs:List Value},VsR E xs vs→VsR (QO E us) (xs.map (fzV look us)) vs
 | [],_,h=>h
 |_::_,_,⟨r,s,e,h1,h2⟩=>⟨r,s,e,Qs6 hH hl h1,QLb hH hl h2⟩
theorem QCq(hH:HeapOk E)(hl:∀b,E.H b=look b):{x:AV}→{v:Value}→AVR E x v→AVR (QO E us) (fzA look us x) v
 |.dead,_,_=>trivial
 |.one _,_,h=>Qs6 hH hl h
 |.tup _,_,⟨vs,e,h⟩=>⟨vs,e,QLb hH hl h⟩
theorem Qxy(c:Cell):(fzC look us c).size=c.size:=by
 unfold fzC;split
 ·split
  ·split<;>rfl
  ·rfl
 ·split
  ·split<;>rfl
  ·rfl
 ·rfl
theorem QlD(x:Blk):shape (fzB look us x)=shape x:=by
 cases x with
 |arr t l=>rfl
 |var cs =>
  simp only[fzB,shape,List.map_map];congr 1;apply List.map_congr_left;intro c _;exact Qxy c
 |mp _ _ _ _=>rfl
theorem QCr(hH:HeapOk E)(hl:∀b,E.H b=look b){b:Nat}{x:Blk}(hx:Qoq E b x):Qoq (QO E us) b (fzB look us x):=by
 cases x with
 |arr t l =>
  rcases hx with h|⟨g,cs,el,vs,spare,h1,h2,h3,h4⟩
  ·exact .inl h
  ·exact .inr ⟨g,cs,el,vs,spare,h1,h2,h3,h4.mono fun _ _ hx=>hx.su⟩
 |var is =>
  obtain⟨g,cs,el,h1,h2,h3⟩:=hx;exact⟨g,cs,el,h1,h2,QI6 hH hl h3⟩
 |mp ka kt vt l=>exact hx
end
def QhH(E:Env)(look:Nat→Option Blk)(us acc:List Nat):Env :=
 { w:=E.w,ρ:=fun i=>(acc[i]?).bind E.ρ,S:=SU E us,H:=fun b=>match (wkH look us acc)[b]? with|some x=>x|none=>none,U:=fun i=>i<acc.length }
theorem Qgl{E:Env}{look:Nat→Option Blk}{us acc:List Nat}{b:Nat}{x:Blk}(h:(QhH E look us acc).H b=some x) :
 ∃n y,acc[b]?=some n∧n∉us∧look n=some y∧x=(fzB look us y).rn (idx acc):=by
 have h:(match (wkH look us acc)[b]? with|some x=>x|none=>none)=some x:=h;unfold wkH at h;rw[Jc] at h;cases hb:acc[b]? with
 |none=>rw[hb] at h;cases h
 |some n =>
  rw[hb] at h;simp only[Option.map_some] at h;unfold wkB at h;split at h
  ·cases h
  ·rename_i hn;split at h
   ·rename_i y hy;injection h with h
    exact⟨n,y,rfl,Qgk hn,hy,h.symm⟩
   ·cases h
theorem weak{m:Nat}{E0 E:Env}{look:Nat→Option Blk}{us acc:List Nat}(hm:∀b,E0.U b→b<m)(hH:HeapOk E)(hl:∀b,E.H b=look b)(hf:Fr E0 E)
 (c1:QeO m acc=true) (c2:QoL look us acc acc=true) :
 HeapOk (QhH E look us acc)∧Fr E0 (QhH E look us acc)∧∀x v,inN acc (fzA look us x).names=true→AVR E x v→AVR (QhH E look us acc) ((fzA look us x).rn (idx acc)) v:=by
 obtain⟨hn,hpre⟩:=Qs3 c1;have hk:=Qfp hH us
 have kH:∀n y,n∉us→look n=some y→(QO E us).H n=some y:=fun n y h1 h2=>by
  show(if n∈us then none else E.H n)=some y;rw[Yb h1,hl,h2]
 have rnat:∀b∈acc,Qxn (QO E us) (QhH E look us acc) (idx acc) b:=by
  intro b hb _;have h1:=Qd1 hn hb;refine⟨(Yu.1 h1).1,fun x hx=>?_⟩;obtain⟨n,y,h2,h3,h4,rfl⟩:=Qgl hx;rw[h1] at h2;injection h2 with h2
  subst h2;refine⟨y,kH _ _ h3 h4,by rw[QcI,QlD],?_⟩;show(acc[idx acc b]?).bind E.ρ=E.ρ b;rw[h1];rfl
 refine⟨⟨fun b x hx=>?_,fun b b' x x' g hx hx' hr hr'=>?_,hk.st⟩,⟨⟨hf.fr.os,hf.fr.tape,hf.fr.output,hf.fr.size,hf.fr.old,fun b x g hx hr=>?_,(Qfq us hf.fr).S⟩,⟨fun g hg=>((hf.ext.trans (Qae us)).S g hg),fun b hb=>?_,fun b x' hb hx=>?_⟩⟩,fun x v hx hv=>?_⟩
 ·obtain⟨n,y,h1,h2,h3,rfl⟩:=Qgl hx;obtain⟨k1,k2,k3⟩:=hk.blk n y (kH _ _ h2 h3);obtain⟨_,k2',_⟩:=hH.blk n y ((hl n).trans h3)
  have hr:(QhH E look us acc).ρ (idx acc n)=(QO E us).ρ n:=by
   show(acc[idx acc n]?).bind E.ρ=E.ρ n;rw[QdL hn h1,h1];rfl
  have:=Qoq.rn (E:=QO E us) (E':=QhH E look us acc) (f:=idx acc) (i:=n) rfl (.inl fun _ h=>h) (fun j hj=>rnat j (Qs4 c2 n (List.mem_of_getElem? h1) h2 y h3 j hj)) hr (QCr hH hl k2');rw[QdL hn h1] at this hr;exact⟨(Yu.1 h1).1,this,fun g hg=>k3 g (hr ▸ hg)⟩
 ·obtain⟨n,y,h1,h2,h3,rfl⟩:=Qgl hx;obtain⟨n',y',h1',h2',h3',rfl⟩:=Qgl hx';have e1:E.ρ n=some g:=by have:(acc[b]?).bind E.ρ=some g:=hr;rwa[h1] at this
  have e2:E.ρ n'=some g:=by have:(acc[b']?).bind E.ρ=some g:=hr';rwa[h1'] at this
  have:=hH.inj n n' y y' g ((hl n).trans h3) ((hl n').trans h3') e1 e2;subst this;rw[←QdL hn h1,←QdL hn h1']
 ·obtain⟨n,y,h1,h2,h3,rfl⟩:=Qgl hx;have e1:E.ρ n=some g:=by have:(acc[b]?).bind E.ρ=some g:=hr;rwa[h1] at this
  exact hf.fr.own n y g ((hl n).trans h3) e1
 ·have:=hpre b (hm b hb);exact(Yu.1 this).1
 ·have h0:=hpre b (hm b hb);obtain⟨n,y,h1,h2,h3,rfl⟩:=Qgl hx;rw[h0] at h1;injection h1 with h1
  subst h1;obtain⟨x,e1,e2,e3,e4⟩:=(hf.ext.trans (Qae us)).H b y hb (kH _ _ h2 h3);refine⟨x,e1,?_,by rw[QcI,QlD,e3],e4⟩;show(acc[b]?).bind E.ρ=E0.ρ b;rw[h0];exact e2
 ·exact AVR.rn (E:=QO E us) (E':=QhH E look us acc) rfl (.inl fun _ h=>h) (fun i hi=>rnat i (Qnh hx i hi)) (QCq hH hl hv)
def leV(look:Nat→Option Blk)(us acc:List Nat)(x y:AV):Prop:=match y with
 |.dead=>True
 |y=>inN acc (fzA look us x).names=true∧(fzA look us x).rn (idx acc)=y
def leT(look:Nat→Option Blk)(us acc:List Nat):List AV→List AV→Prop
 | [],[]=>True
 |x::xs,y::ys=>leV look us acc x y∧leT look us acc xs ys
 |_,_=>False
theorem QAA{look:Nat→Option Blk}{us acc:List Nat}:∀{xs ys:List AV},leT look us acc xs ys→xs.length=ys.length∧∀(i:Nat) y,ys[i]?=some y→∃x,xs[i]?=some x∧leV look us acc x y
 | [],[],_=>⟨rfl,fun i y h=>by simp at h⟩
 |x::xs,y::ys,⟨h1,h2⟩=>by
  obtain⟨h3,h4⟩:=QAA h2;refine⟨by simp[h3],fun i z hz=>?_⟩;cases i with
  |zero=>simp at hz;subst hz;exact⟨x,rfl,h1⟩
  |succ i=>exact h4 i z (by simpa using hz)
 | [],_::_,h=>h.elim
 |_::_,[],h=>h.elim
theorem QCs{E E':Env}{look:Nat→Option Blk}{us acc:List Nat}{x y:AV}{v:Value}(h:leV look us acc x y)(hh:inN acc (fzA look us x).names=true→AVR E' ((fzA look us x).rn (idx acc)) v):AVR E' y v:=by
 cases y with
 |dead=>trivial
 |one _=>obtain⟨h1,h2⟩:=h;rw[←h2];exact hh h1
 |tup _=>obtain⟨h1,h2⟩:=h;rw[←h2];exact hh h1
theorem Le.mk{m:Nat}{st st':St}(us acc:List Nat)(c1:QeO m acc=true)(c2:QoL st.look us acc acc=true)(hh:wkH st.look us acc=st'.heap)(ht:leT st.look us acc st.tmps st'.tmps):Le m st st':=by
 intro E0 E a hm hs hf;obtain⟨h1,h2,h3⟩:=weak hm hs.ok hs.H hf c1 c2;obtain⟨h4,h5⟩:=QAA ht;refine⟨QhH E st.look us acc,rfl,⟨hs.defers,hs.len.trans h4,fun i y hy=>?_,h1,fun b=>?_,fun b hb=>?_⟩,h2⟩
 ·obtain⟨x,hx,hxy⟩:=h5 i y hy;obtain⟨v,hv1,hv2⟩:=hs.tmp i x hx;exact⟨v,hv1,QCs (E:=E) hxy fun hi=>h3 x v hi hv2⟩
 ·show(match (wkH st.look us acc)[b]? with|some x=>x|none=>none)=st'.look b;rw[hh];rfl
 ·rw[←hh];have hb:b<acc.length:=hb;simpa[wkH] using hb
def QhI(T:Tab)(st:St):ResultVar→Option AV
 |.tmp t=>some (st.tmp t)
 |.cell a t=>match Qxc T st.look t (st.tmp a) with
  |some r=>(match r.pre with|none=>some r.val|some _=>none)
  |none=>none
def QoN(T:Tab)(st:St):List ResultVar→Option AV
 | [r]=>QhI T st r
 |l=>match Qfe (QhI T st) l with
  |some vs=>(match ones vs with|some xs=>some (.tup xs)|none=>none)
  |none=>none
def QFs(nm:Nat):List Cell→Option (List Cell)
 | []=>none
 |c::cs=>match c with
  |.imm (.slice none 0 0)=>some (.own nm::cs)
  |c=>match QFs nm cs with|some r=>some (c::r)|none=>none
def noV(nm:Nat):V1→Option V1
 |.c c=>match c with|.imm (.slice none 0 0)=>some (.c (.own nm))|_=>none
 |.agg cs=>match QFs nm cs with|some r=>some (.agg r)|none=>none
def QIs(nm:Nat):List V1→Option (List V1)
 | []=>none
 |v::vs=>match noV nm v with
  |some w=>some (w::vs)
  |none=>match QIs nm vs with|some r=>some (v::r)|none=>none
def noA(nm:Nat):AV→Option AV
 |.dead=>none
 |.one v=>match noV nm v with|some w=>some (.one w)|none=>none
 |.tup l=>match QIs nm l with|some w=>some (.tup w)|none=>none
section
variable {E:Env} {nm:Nat} {t:Ty}
theorem QCt{v:Value}(h:QaI E (.imm (.slice none 0 0)) [v]):QaI (Qcb E [] nm t) (.own nm) [v]:=by
 obtain⟨e,_⟩:=h;injection e with e
 subst e;exact Qft E [] nm t
theorem Qj5(hx:Ext E (Qcb E [] nm t)):∀{cs ds:List Cell} {vs:List Value},QFs nm cs=some ds→IR E cs vs→IR (Qcb E [] nm t) ds vs
 | [],_,_,h,_=>by cases h
 |c::cs,ds,vs,h,⟨r,s,e,h1,h2⟩=>by
  unfold QFs at h;split at h
  ·injection h with h
   subst h;obtain⟨e2,_⟩:=h1;subst e2;exact⟨_,s,e,Qft E [] nm t,h2.ext hx⟩
  ·split at h
   ·rename_i r' hr';injection h with h
    subst h;exact⟨r,s,e,h1.ext hx,Qj5 hx hr' h2⟩
   ·cases h
theorem Qs7(hx:Ext E (Qcb E [] nm t)){x y:V1}{v:Value}(h:noV nm x=some y)(hv:V1R E x v):V1R (Qcb E [] nm t) y v:=by
 unfold noV at h;split at h
 ·split at h
  ·injection h with h
   subst h;exact QCt hv
  ·cases h
 ·split at h
  ·rename_i r hr;injection h with h
   subst h;obtain⟨vals,e,hi⟩:=hv;exact⟨vals,e,Qj5 hx hr hi⟩
  ·cases h
theorem QoO(hx:Ext E (Qcb E [] nm t)):∀{xs ys:List V1} {vs:List Value},QIs nm xs=some ys→VsR E xs vs→VsR (Qcb E [] nm t) ys vs
 | [],_,_,h,_=>by cases h
 |x::xs,ys,vs,h,⟨v,r,e,h1,h2⟩=>by
  unfold QIs at h;split at h
  ·rename_i w hw;injection h with h
   subst h;exact⟨v,r,e,Qs7 hx hw h1,h2.ext hx⟩
  ·split at h
   ·rename_i r' hr';injection h with h
    subst h;exact⟨v,r,e,h1.ext hx,QoO hx hr' h2⟩
   ·cases h
theorem QCu(hx:Ext E (Qcb E [] nm t)){x y:AV}{v:Value}(h:noA nm x=some y)(hv:AVR E x v):AVR (Qcb E [] nm t) y v:=by
 unfold noA at h;split at h
 ·cases h
 ·split at h
  ·rename_i w hw;injection h with h
   subst h;exact Qs7 hx hw hv
  ·cases h
 ·split at h
  ·rename_i w hw;injection h with h
   subst h;obtain⟨vs,e,hi⟩:=hv;exact⟨vs,e,QoO hx hw hi⟩
  ·cases h
theorem Back.nil{E0:Env}{m:Nat}{r r':AV}{upd:List (Option Blk)}{fresh:List Blk}{v:Value}(h:Back E0 m r' upd fresh v E)(t:Ty)(hr:noA (m+fresh.length) r'=some r) :
 Back E0 m r upd (fresh++[.arr t []]) v (Qcb E [] (m+fresh.length) t):=by
 have hU:¬E.U (m+fresh.length):=fun hu=>by have:=(h.U _).1 hu;omega
 have st:Step E { pre:=none,val:=.dead,add:=[.arr t []],set:=[] } (m+fresh.length) (Qcb E [] (m+fresh.length) t):=Step.nil (us:=[]) h.ok rfl rfl hU;refine⟨QCu st.ext hr h.val,st.ok,fun b=>?_,fun b=>?_,h.ext.trans st.ext,st.fr _ h.fr⟩
 ·show(if b=m+fresh.length then some (Blk.arr t []) else if b∈([]:List Nat) then none else E.H b)=_;rw[Yb (YF),h.H b];by_cases h1:b=m+fresh.length
  ·subst h1;rw[Yf rfl,Yb (by omega),YO (by omega)];simp
  ·rw[Yb h1];by_cases h2:b<m
   ·rw[Yf h2,Yf h2]
   ·rw[Yb h2,Yb h2];by_cases h3:b-m<fresh.length
    ·rw[YX h3]
    ·rw[YO (by omega),YK (by omega),YK (by simp;omega)]
 ·show E.U b∨b=m+fresh.length↔_;rw[h.U b,Ym,Jj];omega
end
inductive Ends(P:Program)(T:Tab)(m:Nat)(fn:Func):AV→List (Option Blk)→List Blk→St→Prop where
 |mk {r:AV} {upd:List (Option Blk)} {fresh:List Blk} {st:St} (us acc:List Nat) (v:AV) (hr:QoN T st fn.results.toList=some v) (c1:QeO m acc=true) (c2:QoL st.look us acc acc=true)
   (c3:inN acc (fzA st.look us v).names=true) (hu:Nat.beq upd.length m=true) (hh:wkH st.look us acc=upd++fresh.map some) (he:(fzA st.look us v).rn (idx acc)=r):Ends P T m fn r upd fresh st
 |le {r:AV} {upd:List (Option Blk)} {fresh:List Blk} {st st':St} (h:Le m st st') (h2:Ends P T m fn r upd fresh st'):Ends P T m fn r upd fresh st
 |nil {r:AV} {upd:List (Option Blk)} {fresh:List Blk} {st:St} (t:Ty) (r':AV) (fresh':List Blk) (h:Ends P T m fn r' upd fresh' st) (hr:noA (m+fresh'.length) r'=some r) (hf:fresh'++[.arr t []]=fresh):Ends P T m fn r upd fresh st
def QI7(P:Program)(T:Tab)(m:Nat)(fn:Func)(r:AV)(upd:List (Option Blk))(fresh:List Blk):Cont:=fun e st=>match e with
 |.normal=>Ends P T m fn r upd fresh st
 |.ret=>Ends P T m fn r upd fresh st
 |_=>False
section
variable {P:Program} {T:Tab}
def QhJ(tmps:Array Value):ResultVar→Sem Value
 |.tmp t=>pure (tmps.getD t undef)
 |.cell p t=>do loadVar t (←asAddr (tmps.getD p undef))
theorem Qq6(fn:Func)(tmps:Array Value):results fn tmps=(do let vs ←fn.results.mapM (QhJ tmps);pure (if h:vs.size=1 then vs[0] else .tuple vs)):=by
 unfold results;congr 1
theorem Qj6{α:Type}(P:Program)(w:World)(f:α→Sem Value):∀(l:List α) (vs:List Value),(∀(i:Nat) x,l[i]?=some x→∃v,vs[i]?=some v∧(f x).run P w=.ok v w)→l.length=vs.length→(l.mapM f).run P w=.ok vs w
 | [],[],_,_=>by simp
 |x::l,v::vs,h,hl=>by
  obtain⟨v',h1,h2⟩:=h 0 x rfl;simp at h1;subst h1;have:=Qj6 P w f l vs (fun i y hy=>h (i+1) y (by simpa using hy)) (by simpa using hl);simp[List.mapM_cons,h2,this]
 | [],_::_,_,hl=>by simp at hl
 |_::_,[],_,hl=>by simp at hl
theorem Qjl(hT:TabOk P T){st:St}{E:Env}{a:Act}(hs:Sim st E a){r:ResultVar}{x:AV}(h:QhI T st r=some x) :
 ∃v,(QhJ a.tmps r).run P E.w=.ok v E.w∧AVR E x v:=by
 cases r with
 |tmp t =>
  simp only[QhI,Yc] at h;subst h;exact⟨_,by simp[QhJ],hs.at_ t⟩
 |cell p t =>
  simp only[QhI] at h;split at h
  ·rename_i r hr;split at h
   ·rename_i hp;injection h with h
    subst h;obtain⟨v,h1,h2,_,_⟩:=Qos hT hs.ok (fun b x hb=>(hs.H b).trans hb) (hs.at_ p) hr (fun q hq=>by rw[hp] at hq;cases hq);refine⟨v,?_,h2⟩;unfold QhJ;simp only;generalize a.tmps.getD p undef=va at h1 ⊢;have hva:(∃ad,va=.pointer (some ad))∨¬∃ad,va=.pointer (some ad):=Classical.em _;rcases hva with⟨ad,rfl⟩|hn
    ·simpa[Instr.loadAt,Instr.sureAddr,asAddr] using h1
    ·exfalso
     have:(Instr.sureAddr va)=stuck "an address expected (no nilCheck in front?)":=by
      unfold Instr.sureAddr;split
      ·exact YD ⟨_,rfl⟩ hn
      ·rfl
     simp[Instr.loadAt,this,stuck] at h1
   ·cases h
  ·cases h
theorem VsR.mk{E:Env}:∀{xs:List V1} {vs:List Value},xs.length=vs.length→(∀(i:Nat) x v,xs[i]?=some x→vs[i]?=some v→V1R E x v)→VsR E xs vs
 | [],[],_,_=>rfl
 |x::xs,v::vs,hl,h=>⟨v,vs,rfl,h 0 x v rfl rfl,VsR.mk (by simpa using hl) fun i y u hy hu=>h (i+1) y u (by simpa using hy) (by simpa using hu)⟩
 | [],_::_,hl,_=>by simp at hl
 |_::_,[],hl,_=>by simp at hl
theorem Qs8:∀{l:List AV} {xs:List V1},ones l=some xs→l.length=xs.length∧∀(i:Nat) x,xs[i]?=some x→l[i]?=some (.one x)
 | [],xs,h=>by simp[ones] at h;subst h;exact⟨rfl,fun i x hx=>by simp at hx⟩
 |a::l,xs,h=>by
  unfold ones at h;split at h
  ·rename_i h1 h2;cases h2
  ·rename_i x r hx;split at h
   ·rename_i ys hys;injection h with h
    subst h;injection hx with e1 e2
    subst e1;subst e2;obtain⟨h3,h4⟩:=Qs8 hys;refine⟨by simp[h3],fun i z hz=>?_⟩;cases i with
    |zero=>simp at hz;subst hz;rfl
    |succ i=>simpa using h4 i z (by simpa using hz)
   ·cases h
  ·cases h
theorem Qq7(hT:TabOk P T){st:St}{E:Env}{a:Act}(hs:Sim st E a){fn:Func}{x:AV}(h:QoN T st fn.results.toList=some x):∃v,(results fn a.tmps).run P E.w=.ok v E.w∧AVR E x v:=by
 have gen:∀(l:List ResultVar) (vs:List AV),Qfe (QhI T st) l=some vs→∃us:List Value,us.length=l.length∧(∀(i:Nat) y u,vs[i]?=some y→us[i]?=some u→AVR E y u) ∧
  (l.mapM (QhJ a.tmps)).run P E.w=.ok us E.w:=by
  intro l vs hm;obtain⟨h1,h2⟩:=QdZ hm
  have:∀(l:List ResultVar) (vs:List AV),vs.length=l.length→(∀(i:Nat) r,l[i]?=some r→∃y,QhI T st r=some y∧vs[i]?=some y)→∃us:List Value,us.length=l.length∧(∀(i:Nat) y u,vs[i]?=some y→us[i]?=some u→AVR E y u) ∧
   ∀(i:Nat) r,l[i]?=some r→∃u,us[i]?=some u∧(QhJ a.tmps r).run P E.w=.ok u E.w:=by
   intro l
   induction l with
   |nil=>intro vs _ _;exact⟨[],rfl,fun i y u _ hu=>by simp at hu,fun i r hr=>by simp at hr⟩
   |cons r l ih =>
    intro vs hl h;cases vs with
    |nil=>simp at hl
    |cons y vs =>
     obtain⟨us,e1,e2,e3⟩:=ih vs (by simpa using hl) (fun i r hr=>by simpa using h (i+1) r (by simpa using hr));obtain⟨y',hy,hy'⟩:=h 0 r rfl;simp at hy';subst hy';obtain⟨v,hv1,hv2⟩:=Qjl hT hs hy;refine⟨v::us,by simp[e1],fun i z u hz hu=>?_,fun i r' hr'=>?_⟩
     ·cases i with
      |zero=>simp at hz hu;subst hz;subst hu;exact hv2
      |succ i=>exact e2 i z u (by simpa using hz) (by simpa using hu)
     ·cases i with
      |zero=>simp at hr';subst hr';exact⟨v,rfl,hv1⟩
      |succ i=>simpa using e3 i r' (by simpa using hr')
  obtain⟨us,e1,e2,e3⟩:=this l vs h1 h2;exact⟨us,e1,e2,Qj6 P E.w _ l us e3 e1.symm⟩
 have run:∀us:List Value,(fn.results.toList.mapM (QhJ a.tmps)).run P E.w=.ok us E.w →
  (results fn a.tmps).run P E.w=.ok (if h:us.toArray.size=1 then us.toArray[0] else .tuple us.toArray) E.w:=by
  intro us hu;rw[Qq6,Array.mapM_eq_mapM_toList];simp[-Array.getD_eq_getD_getElem?,hu]
 unfold QoN at h;split at h
 ·rename_i r hl;obtain⟨v,h1,h2⟩:=Qjl hT hs h;refine⟨v,?_,h2⟩
  have:=run [v] (by rw[hl];exact Qj6 P E.w _ [r] [v] (fun i x hx=>by
   cases i with
   |zero=>simp at hx;subst hx;exact⟨v,rfl,h1⟩
   |succ i=>simp at hx) rfl)
  simpa using this
 ·rename_i hl;split at h
  ·rename_i vs hm;split at h
   ·rename_i xs ho;injection h with h
    subst h;obtain⟨us,e1,e2,e3⟩:=gen _ _ hm;obtain⟨o1,o2⟩:=Qs8 ho
    have hlen:us.length≠1:=by
     intro hu;rw[e1] at hu
     match hr:fn.results.toList,hu with
     | [r],_=>exact hl r hr
    refine⟨_,run us e3,?_⟩;rw[dif_neg (by simpa using hlen)];refine⟨us.toArray,rfl,VsR.mk ?_ fun i x v hx hv=>?_⟩
    ·have:=(QdZ hm).1;simp only[List.size_toArray];show xs.length=us.length;omega
    ·exact e2 i _ v (o2 i x hx) (by simpa using hv)
   ·cases h
  ·cases h
theorem Back.of_ends{m:Nat}{E0 E:Env}{a:Act}{st:St}{fn:Func}{r:AV}{upd:List (Option Blk)}{fresh:List Blk}(hT:TabOk P T)(hm:∀b,E0.U b→b<m)(hs:Sim st E a)(hf:Fr E0 E)
 (h:Ends P T m fn r upd fresh st):∃v,(results fn a.tmps).run P E.w=.ok v E.w∧∃E',E'.w=E.w∧Back E0 m r upd fresh v E':=by
 induction h generalizing E with
 |nil t r' fresh' _ hr he ih =>
  obtain⟨v,k1,E2,k2,k3⟩:=ih hs hf;subst he;exact⟨v,k1,Qcb E2 [] _ t,k2,Back.nil k3 t hr⟩
 |le hle _ ih =>
  obtain⟨E1,e1,s1,f1⟩:=hle E0 E a hm hs hf;obtain⟨v,k1,E2,k2,k3⟩:=ih s1 f1;rw[e1] at k1 k2;exact⟨v,k1,E2,k2,k3⟩
 | @mk r upd fresh st us acc x hr c1 c2 c3 hu hh he =>
   obtain⟨v,h1,h2⟩:=Qq7 hT hs hr;obtain⟨k1,k2,k3⟩:=weak hm hs.ok hs.H hf c1 c2;have hu:=Yg hu
   have hlen:acc.length=m+fresh.length:=by
    have:=Yv List.length hh;simp[wkH] at this;omega
   refine⟨v,h1,QhH E _ us acc,rfl,he ▸ k3 x v c3 h2,k1,fun b=>?_,fun b=>?_,k2.ext,k2.fr⟩
   ·show(match (wkH _ us acc)[b]? with|some x=>x|none=>none)=_;rw[hh];split<;>rename_i hb
    ·split
     ·rename_i hlt;rw[YX (by omega)] at hb;rw[hb];rfl
     ·rename_i hlt;rw[YO (by omega),hu,Jc] at hb;cases hf:fresh[b-m]? with
      |none=>rw[hf] at hb;cases hb
      |some y=>rw[hf] at hb;simp at hb;exact hb.symm
    ·have:=List.getElem?_eq_none_iff.1 hb;simp at this;rw[Yb (by omega),YK (by omega)]
   ·show b<acc.length↔_;rw[hlen]
def st0(n:Nat)(args:List V1)(bl:List Blk):St:={ tmps:=args.map .one++List.replicate (n-args.length) .dead,heap:=bl.map some }
theorem VsR.at_{E:Env}:∀{xs:List V1} {vs:List Value},VsR E xs vs→∀(i:Nat) x,xs[i]?=some x→∃v,vs[i]?=some v∧V1R E x v
 | [],_,_,i,x,h=>by simp at h
 |y::xs,_,⟨v,r,e,h1,h2⟩,i,x,h=>by
  subst e;cases i with
  |zero=>simp at h;subst h;exact⟨v,rfl,h1⟩
  |succ i=>simpa using h2.at_ i x (by simpa using h)
theorem Sim.start{E:Env}{args:List V1}{bl:List Blk}{vs:Array Value}(n:Nat)(hH:∀b,E.H b=bl[b]?)(hU:∀b,E.U b↔b<bl.length)(ok:HeapOk E)(hv:VsR E args vs.toList) :
 Sim (st0 n args bl) E { tmps:=vs++Array.replicate (n-vs.size) undef,defers:=[] }:=by
 have hl:vs.size=args.length:=by have:=VsR.len hv;simpa using this
 refine⟨rfl,by simp[st0,hl],fun i x hx=>?_,ok,fun b=>?_,fun b hb=>by simpa[st0] using(hU b).1 hb⟩
 ·simp only[st0,List.getElem?_append] at hx;split at hx
  ·rename_i hi;rw[Jc] at hx;cases h:args[i]? with
   |none=>rw[h] at hx;cases hx
   |some y =>
    rw[h] at hx;simp at hx;subst hx;obtain⟨v,h1,h2⟩:=hv.at_ i y h;have hi:i<vs.size:=by simp at hi;omega
    exact⟨v,by simpa[Array.getElem?_append,hi] using h1,h2⟩
  ·rename_i hi;simp at hi;rw[List.getElem?_replicate] at hx;split at hx
   ·rename_i hlt;injection hx with hx
    subst hx;refine⟨undef,?_,trivial⟩;rw[Array.getElem?_append,Yb (by omega),Array.getElem?_replicate,Yf (by simp at hlt;omega)]
   ·cases hx
 ·rw[hH];show _=(match (bl.map some)[b]? with|some o=>o|none=>none)
  rw[Jc];cases bl[b]?<;>rfl
theorem Qj7{f:FuncId}{fn:Func}{c:Code}(hT:TabOk P T)(hf:P.funcs[f]?=some fn)(hb:fn.body=some c)(s:CSpec)
 (h:∀args bl p r upd fresh,s.run args bl=some (p,r,upd,fresh)→(∀q,p=some q→q) →
   ∃args',(∀E vs,HeapOk E→(∀b,E.H b=bl[b]?)→VsR E args vs→VsR E args' vs)∧Does P bl.length c (st0 fn.ntmps args' bl) (QI7 P T bl.length fn r upd fresh)):CSound P f s:=by
 intro E0 vs args bl p r upd fresh hH hU hok hvs hrun hp;obtain⟨args',h1,h2⟩:=h args bl p r upd fresh hrun hp;have hm:∀b,E0.U b→b<bl.length:=fun b hb=>(hU b).1 hb
 refine calls_of_wp hf hb (h2 E0 _ E0 _ hm (Sim.start fn.ntmps hH hU hok (h1 E0 _ hok hH hvs)) ⟨Qjh,Ext.refl E0⟩ ?_);intro e st' E' a' hk hs' hf'
 have fin:Ends P T bl.length fn r upd fresh st'→a'.defers=[]∧∃v,(results fn a'.tmps).run P E'.w=.ok v E'.w∧∃v' E'',Ending.returned v=.returned v'∧E''.w=E'.w∧Back E0 bl.length r upd fresh v' E'':=by
  intro he;obtain⟨v,k1,E'',k2,k3⟩:=Back.of_ends hT hm hs' hf' he;exact⟨hs'.defers,v,k1,v,E'',rfl,k2,k3⟩
 cases e with
 |normal=>exact fin hk
 |ret=>exact fin hk
 |_=>exact hk.elim
structure Sig where
 ag:Bool
 t:Ty
@[reducible] def Args:List Sig→Type
  | []=>Unit
  |g::gs=>Den g.t×Args gs
def QAB(g:Sig)(x:V1):Option (Den g.t):=match g.ag,x with
 |false,.c c=>match Qca (fun _=>none) g.t [c] with
  |some (d,_)=>(match cells g.t d with| [_]=>some d|_=>none)
  |none=>none
 |true,.agg cs=>match Qca (fun _=>none) g.t cs with
  |some (d,_)=>some d
  |none=>none
 |_,_=>none
def QcJ(g:Sig)(d:Den g.t):V1:=match g.ag with
 |true=>.agg (cells g.t d)
 |false=>match cells g.t d with
  | [c]=>.c c
  |cs=>.agg cs
def Qdx:(gs:List Sig)→List V1→Option (Args gs)
 | [],[]=>some ()
 |g::gs,x::xs=>match QAB g x with
  |some d=>(match Qdx gs xs with|some r=>some (d,r)|none=>none)
  |none=>none
 |_,_=>none
def QaO:(gs:List Sig)→Args gs→List V1
 | [],_=>[]
 |g::gs,(a,r)=>QcJ g a::QaO gs r
def QcS:(gs:List Sig)→(Args gs→Prop)→Prop
 | [],p=>p ()
 |g::gs,p=>∀a:Den g.t,QcS gs fun r=>p (a,r)
theorem QcS.out:∀{gs:List Sig} {p:Args gs→Prop},QcS gs p→∀x,p x
 | [],_,h,()=>h
 |_::_,_,h,(a,r)=>QcS.out (h a) r
theorem QoP{E:Env}(hH:HeapOk E)(hn:∀b,E.H b=none){g:Sig}{x:V1}{d:Den g.t}{v:Value}(h:QAB g x=some d)(hv:V1R E x v):V1R E (QcJ g d) v:=by
 have su:∀{us:List Nat} {t:Ty} {x:Den t} {vs:List Value},CR E.w (SU E us) t x vs→CR E.w E.S t x vs:=by
  intro us t x vs hc;refine hc.mono fun g hg=>⟨?_,rfl⟩
  rcases hg with hg|⟨u,x,_,hx,_⟩
  ·exact hg
  ·rw[hn] at hx;cases hx
 have dec:∀{cs:List Cell} {vs:List Value} {t:Ty} {d:Den t} {us:List Nat},Qca (fun _=>none) t cs=some (d,us)→IR E cs vs→IR E (cells t d) vs :=
  fun h hr=>(su (QbJ hH (fun b x hx=>by cases hx) h hr)).items
 unfold QAB at h;unfold QcJ;split at h
 ·rename_i c hg;rw[hg];split at h
  ·rename_i d' us hd;split at h
   ·rename_i c' hc;injection h with h
    subst h;have:=dec hd (show IR E [c] [v] from⟨[v],[],rfl,hv,rfl⟩);simp only[hc];rw[hc] at this;obtain⟨r,s,e,h1,h2⟩:=this;simp only[IR] at h2;subst h2;simp at e;subst e;exact h1
   ·cases h
  ·cases h
 ·rename_i cs hg;rw[hg];split at h
  ·rename_i d' us hd;injection h with h
   subst h;obtain⟨vals,e,hi⟩:=hv;exact⟨vals,e,dec hd hi⟩
  ·cases h
 ·cases h
theorem Qe0{E:Env}(hH:HeapOk E)(hn:∀b,E.H b=none):∀{gs:List Sig} {xs:List V1} {ds:Args gs} {vs:List Value},Qdx gs xs=some ds→VsR E xs vs→VsR E (QaO gs ds) vs
 | [],[],_,_,_,hv=>hv
 |g::gs,x::xs,ds,_,h,⟨v,r,e,h1,h2⟩=>by
  unfold Qdx at h;split at h
  ·rename_i d hd;split at h
   ·rename_i rs hr;injection h with h
    subst h;exact⟨v,r,e,QoP hH hn hd h1,Qe0 hH hn hr h2⟩
   ·cases h
  ·cases h
 | [],_::_,_,_,h,_=>by simp[Qdx] at h
 |_::_,[],_,_,h,_=>by simp[Qdx] at h
structure PSpec where
 gs:List Sig
 out:Args gs→Option Prop×AV×List Blk
def PSpec.spec(s:PSpec):CSpec:={ wr:=false,run:=fun args bl=>match bl with
 | []=>match Qdx s.gs args with
   |some xs=>some ((s.out xs).1,(s.out xs).2.1,[],(s.out xs).2.2)
   |none=>none
 |_::_=>none }
def Qjm(P:Program)(T:Tab)(fn:Func)(args:List V1)(bl:List Blk)(r:AV)(upd:List (Option Blk))(fresh:List Blk):Prop:=match fn.body with
 |some c=>QFa args fun args=>QqS bl fun bl=>fSt (st0 fn.ntmps args bl) fun st=>ex P T bl.length c st (QI7 P T bl.length fn r upd fresh)
 |none=>False
theorem PSpec.sound{f:FuncId}{fn:Func}(hT:TabOk P T)(hP:Q7 P T)(hf:P.funcs[f]?=some fn)(hn:(fn.name == "runtime.NumGoroutine")=false)(s:PSpec)
 (h:QcS s.gs fun xs=>(∀q,(s.out xs).1=some q→q)→Qjm P T fn (QaO s.gs xs) [] (s.out xs).2.1 [] (s.out xs).2.2) (hb:fn.body.isSome=true):CSound P f s.spec∧Enters P f:=by
 refine⟨?_,fn,hf,hn,hb⟩;obtain⟨c,hc⟩:=Option.isSome_iff_exists.1 hb;refine Qj7 hT hf hc _ fun args bl p r upd fresh hrun hp=>?_
 unfold PSpec.spec at hrun;simp only at hrun;split at hrun
 ·split at hrun
  ·rename_i xs hxs;simp only[Yc,YM] at hrun;obtain⟨rfl,rfl,rfl,rfl⟩:=hrun;refine⟨_,fun E vs hok hH hv=>Qe0 hok (fun b=>by rw[hH];simp) hxs hv,?_⟩;have:=h.out xs hp;unfold Qjm at this;rw[hc] at this;simp only[Qhu,Qfn,Qbi] at this;exact Qg4 hT hP c this
  ·cases hrun
 ·cases hrun
end
def orB:List Bool→List Bool→List Bool
 | [],l=>l
 |a::x,[]=>a::x
 |a::x,b::y=>(match a with|true=>true|false=>b)::orB x y
def QCv:Nat→List Bool
 |0=>[true]
 |j+1=>false::QCv j
def QdT:List Bool→Nat→Bool
 | [],_=>false
 |b::_,0=>b
 |_::r,n+1=>QdT r n
def Qcq:List (List Bool)→Nat→List Bool
 | [],_=>[]
 |b::_,0=>b
 |_::r,n+1=>Qcq r n
def Qj8(As:List (List Bool)):List Edge→List Bool
 | []=>[]
 |e::r=>match Region.binds .any e with
  |true=>orB (orB (QCv e.on) (Qcq As e.on)) (Qj8 As r)
  |false=>Qj8 As r
def Qjn:List Bool→(List Bool→Prop)→Prop
 | [],k=>k []
 |true::cs,k=>Qjn cs fun cs=>k (true::cs)
 |false::cs,k=>Qjn cs fun cs=>k (false::cs)
def Qdy:List Oper→List (List Bool)→(List (List Bool)→Prop)→Prop
 | [],As,K=>K As
 |o::r,As,K=>Qjn (Qj8 As o.after.toList) fun A=>fL (As++[A]) fun As=>Qdy r As K
inductive W1 where
 |no|any|only(l:List Nat)
def Qw6:W1→Nat→Bool
 |.no,_=>false
 |.any,_=>true
 |.only l,b=>memN b l
def QsA:List W1→Nat→W1
 | [],_=>.no
 |b::_,0=>b
 |_::r,n+1=>QsA r n
def fW:W1→(W1→Prop)→Prop
 |.no,k=>k .no
 |.any,k=>k .any
 |.only l,k=>QsM l fun l=>k (.only l)
def fWs:List W1→(List W1→Prop)→Prop
 | [],k=>k []
 |c::cs,k=>fW c fun c=>fWs cs fun cs=>k (c::cs)
def Qxz(t:Tmp):List Oper→Option (Op×List Oper)
 | []=>none
 |o::os=>match o.dst with
  |some d=>(match Nat.beq d t with|true=>some (o.op,os)|false=>Qxz t os)
  |none=>Qxz t os
def Qni:Nat→Nat→List Nat
 |_,0=>[]
 |a,n+1=>a::Qni (a+1) n
def QeP(st:St):Nat→List Oper→Operand→W1
 |0,_,_=>.any
 |f+1,ops,x=>match x with
  |.tmp t=>match Qxz t ops with
   |some (.fieldAddr _ y _,os)=>QeP st f os y
   |some (.indexAddr _ y _,os)=>QeP st f os y
   |some (.move y,os)=>QeP st f os y
   |some (.nilCheck y,os)=>QeP st f os y
   |some (.assign y,os)=>QeP st f os y
   |some (.binOp ..,_)=>.only []
   |some (.buildSlice ..,_)=>.only (Qni st.heap.length 24)
   |some (.call c,_)=>(match c.callee with|.builtin b=>(match b with|.len=>.only []|.max=>.only []|.min=>.only []|_=>.any)|_=>.any)
   |some _=>.any
   |none=>match st.tmp t with
    |.one (.c (.ptr b _))=>.only [b]
    |.one (.c (.pel b _ _))=>.only [b]
    |.one (.c (.pidx b _ _))=>.only [b]
    |.one (.c (.own b))=>.only [b]
    |.one (.c (.sub b _ _))=>.only [b]
    |.one (.c (.svar b _ _))=>.only [b]
    |.one (.c (.map b))=>.only [b]
    |.one (.c (.imm _))=>.only []
    |.one (.c (.ro _ _))=>.only []
    |_=>.any
  |_=>.only []
def QCw(st:St)(ops:List Oper):List Operand→Option (List Nat)
 | []=>some []
 |a::r=>match QeP st 6 ops a with
  |.only l=>(match QCw st ops r with|some m=>some (l++m)|none=>none)
  |_=>none
def QFt(st:St)(ops:List Oper)(args:List Operand):W1:=match QCw st ops args with
 |some l=>(match reach st.look 100 l [] with|some acc=>.only acc|none=>.any)
 |none=>.any
def QMz(st:St)(ops:List Oper)(args:List Operand):W1:=match QFt st ops (args.take 1) with
 |.any=>(match args with|a::_=>QeP st 6 ops a | []=>.any)
 |w=>w
def Qj9(st:St):Nat→List Oper→Operand→Option (FuncId×List Nat)
 |0,_,_=>none
 |f+1,ops,x=>match x with
  |.func g=>some (g,[])
  |.tmp t=>match Qxz t ops with
   |some (.move y,os)=>Qj9 st f os y
   |some (.assign y,os)=>Qj9 st f os y
   |some _=>none
   |none=>match st.tmp t with
    |.one (.c (.fn g caps))=>some (g,caps)
    |_=>none
  |_=>none
def QI8(st:St)(ops:List Oper)(args:List Operand)(caps:List Nat):W1:=match QCw st ops args with
 |some l=>(match reach st.look 100 (l++caps) [] with|some acc=>.only acc|none=>.any)
 |none=>.any
def QFu(T:Tab)(st:St)(t:TypeId):W1:=match Qhs T t with
 |some (u,_)=>(match u.flat with|true=>.no|false=>.only (Qni st.heap.length 24))
 |none=>.no
def QMA(T:Tab)(st:St)(ops:List Oper)(o:Oper):W1:=match o.op with
 |.store _ a _=>QeP st 6 ops a
 |.mapUpdate _ m _ _=>QeP st 6 ops m
 |.insert _ m _ _=>QeP st 6 ops m
 |.buildSlice t _ _=>QFu T st t
 |.call c=>match c.callee with
  |.builtin b=>(match b with|.append=>QMz st ops c.args.toList|.copy=>QFt st ops (c.args.toList.take 1)|_=>.no)
  |.value f=>(match Qj9 st 6 ops f with|some (g,caps)=>(match T.fn g with|some s=>(match s.wr||s.eat with|true=>QI8 st ops c.args.toList caps|false=>.no)|none=>.any)|none=>.any)
  |_=>.any
 |_=>.no
def effs(T:Tab)(st:St)(ops:List Oper):List Oper→List W1
 | []=>[]
 |o::r=>QMA T st ops o::effs T st (o::ops) r
def Qq8(i:Nat):List W1→List (List Bool)→List Bool→List Nat→List W1
 |e::es,As,A,k::ks=>match e with
  |.no=>Qq8 i es (As.drop 1) (A.drop 1) ks
  |e=>match Nat.beq k i with
   |true=>Qq8 i es (As.drop 1) (A.drop 1) ks
   |false=>match QdT A 0 with
    |true=>Qq8 i es (As.drop 1) (A.drop 1) ks
    |false=>match QdT (Qcq As 0) i with
     |true=>Qq8 i es (As.drop 1) (A.drop 1) ks
     |false=>e::Qq8 i es (As.drop 1) (A.drop 1) ks
 | [],_,_,_=>[]
 |_::_,_,_,[]=>[.any]
def QxA:List W1→Nat→Bool
 | [],_=>false
 |c::r,b=>match Qw6 c b with|true=>true|false=>QxA r b
def QoQ(e:W1):List (Nat×Option Blk)→Bool
 | []=>true
 |(n,_)::r=>match Qw6 e n with|true=>QoQ e r|false=>false
def Qb5(i:Nat)(t:Tmp):List Oper→List (List Bool)→List Bool→List Nat→Bool
 |o::os,As,A,k::ks=>match o.dst with
  |some d=>match Nat.beq d t with
   |true=>match QdT A 0 with
    |true=>Qb5 i t os (As.drop 1) (A.drop 1) ks
    |false=>match QdT (Qcq As 0) i with
     |true=>Qb5 i t os (As.drop 1) (A.drop 1) ks
     |false=>match Nat.beq k i with
      |true=>Qb5 i t os (As.drop 1) (A.drop 1) ks
      |false=>true
   |false=>Qb5 i t os (As.drop 1) (A.drop 1) ks
  |none=>Qb5 i t os (As.drop 1) (A.drop 1) ks
 | [],_,_,_=>false
 |_::_,_,_,[]=>true
def QgW(inc:List W1)(A:List Bool)(b:Nat):List (Nat×Nat×Nat)→Bool
 | []=>QxA inc b
 |(k,n,c)::r=>match Nat.ble n b&&Nat.blt b (n+c) with
  |true=>(match QdT A k with|true=>QgW inc A b r|false=>true)
  |false=>QgW inc A b r
def Qg5(lk:Nat→Option Blk):List (Nat×Option Blk)→Bool
 | []=>true
 |(n,_)::r=>match lk n with|none=>false|some _=>Qg5 lk r
def Qfv(own:List (Nat×Nat×Nat))(i nm:Nat):List Blk→List (Nat×Nat×Nat)
 | []=>own
 |b::r=>(i,nm,r.length+1)::own
def Qnj(i:Nat)(o:Oper)(ops:List Oper)(As:List (List Bool))(A:List Bool):Bool:=match o.dst with
 |none=>true
 |some d=>match Qb5 i d (ops.take i) As A lits with|true=>false|false=>true
def QxB:List Bool→Nat→Bool
 | [],_=>true
 |_::_,0=>false
 |_::r,n+1=>QxB r n
def QhK(st:St)(hide:Tmp→Bool)(x:Operand):AV:=match x with
 |.tmp t=>(match hide t with|true=>.dead|false=>st.tmp t)
 |.const v=>Qoh v
 |.func f=>.cell (.fn f [])
 |.global _=>.dead
def QcK(st:St)(hb:Nat→Bool)(b:Nat):Option Blk:=match hb b with|true=>none|false=>st.look b
def doM(T:Tab)(o:Oper)(ht:Tmp→Bool)(hb:Nat→Bool)(eff:W1)(nm:Nat)(st:St)(K:St→List Blk→Prop):Prop :=
 match dstep T (QhK st ht) (QcK st hb) nm o with
 |some r=>need r.pre (QIr r fun v add set=>match Qg5 (QcK st hb) set&&QoQ eff set with
  |true=>fSt ((st.act nm { pre:=none,val:=v,add:=add,set:=set }).put o.dst v) fun st=>K st add
  |false=>False)
 |none=>False
def exM(T:Tab)(ops:Array Oper)(As:List (List Bool))(efs:List W1):List Oper→List Nat→List (Nat×Nat×Nat)→St→(St→Prop)→Prop
 | [],_,_,st,K=>K st
 |_::_,[],_,_,_=>False
 |o::r,i::is,own,st,K =>
  match QxB (Qcq As i) i&&Qnj i o ops.toList As (Qcq As i) with
  |false=>False
  |true=>fWs (Qq8 i efs As (Qcq As i) lits) fun inc =>
   match QaA ops o with
   |none=>False
   |some none=>Qaz lits st.heap st.heap.length fun nm =>
    doM T o (fun t=>Qb5 i t ops.toList As (Qcq As i) lits) (fun b=>QgW inc (Qcq As i) b own) (QsA efs i) nm st fun st' add=>exM T ops As efs r is (Qfv own i nm add) st' K
   |some (some (d,want))=>match QhK st (fun t=>Qb5 i t ops.toList As (Qcq As i) lits) (.tmp d) with
    |.one (.c (.imm (.bool b)))=>Br b
     (fSt (st.put (some d) (.cell (bv true))) fun st=>match want with
       |true=>Qaz lits st.heap st.heap.length fun nm =>
        doM T o (fun t=>Qb5 i t ops.toList As (Qcq As i) lits) (fun b=>QgW inc (Qcq As i) b own) (QsA efs i) nm st fun st' add=>exM T ops As efs r is (Qfv own i nm add) st' K
       |false=>fSt (st.put o.dst (.tup [])) fun st=>exM T ops As efs r is own st K)
     (fSt (st.put (some d) (.cell (bv false))) fun st=>match want with
       |false=>Qaz lits st.heap st.heap.length fun nm =>
        doM T o (fun t=>Qb5 i t ops.toList As (Qcq As i) lits) (fun b=>QgW inc (Qcq As i) b own) (QsA efs i) nm st fun st' add=>exM T ops As efs r is (Qfv own i nm add) st' K
       |true=>fSt (st.put o.dst (.tup [])) fun st=>exM T ops As efs r is own st K)
    |.tup []=>fSt (st.put o.dst (.tup [])) fun st=>exM T ops As efs r is own st K
    |_=>False
def exD(T:Tab)(ops:Array Oper)(st:St)(K:St→Prop):Prop :=
 Qdy ops.toList [] fun As=>fWs (effs T st [] ops.toList) fun efs=>exM T ops As efs ops.toList lits [] st K
theorem QhL:∀(l:List Bool) (k:List Bool→Prop),Qjn l k=k l
 | [],k=>rfl
 |true::ns,k=>by unfold Qjn;rw[QhL ns]
 |false::ns,k=>by unfold Qjn;rw[QhL ns]
theorem Qnk:∀{a b:List Bool} {j:Nat},QdT (orB a b) j=true→QdT a j=true∨QdT b j=true
 | [],_,_,h=>.inr h
 |_::_,[],_,h=>.inl h
 |a::x,b::y,0,h=>by cases a<;>simp_all [orB,QdT]
 |a::x,b::y,j+1,h=>Qnk (a:=x) (b:=y) (j:=j) h
theorem QhM:∀{a b:List Bool} {j:Nat},QdT a j=true→QdT (orB a b) j=true
 | [],_,_,h=>by cases h
 |_::_,[],_,h=>h
 |a::x,b::y,0,h=>by cases a<;>simp_all [orB,QdT]
 |a::x,b::y,j+1,h=>QhM (a:=x) (b:=y) (j:=j) h
theorem QlE:∀{a b:List Bool} {j:Nat},QdT b j=true→QdT (orB a b) j=true
 | [],_,_,h=>h
 |_::_,[],_,h=>by cases h
 |a::x,b::y,0,h=>by cases a<;>simp_all [orB,QdT]
 |a::x,b::y,j+1,h=>QlE (a:=x) (b:=y) (j:=j) h
theorem Qka:∀{i j:Nat},QdT (QCv i) j=true↔j=i
 |0,0=>by simp[QCv,QdT]
 |0,j+1=>by simp[QCv,QdT]
 |i+1,0=>by simp[QCv,QdT]
 |i+1,j+1=>by simp[QCv,QdT,Qka]
theorem QoR:∀{l:List Bool} {i j:Nat},QxB l i=true→QdT l j=true→j<i
 | [],_,_,_,h=>by cases h
 |_::_,0,_,h,_=>by cases h
 |_::r,n+1,0,_,_=>by omega
 |_::r,n+1,j+1,h,h'=>by have:=QoR (l:=r) (i:=n) (j:=j) h h';omega
theorem QhN:∀{a b:List (List Bool)} {k:Nat},Qcq a k≠[]→Qcq (a++b) k=Qcq a k
 | [],_,_,h=>YD rfl h
 |x::a,b,0,_=>rfl
 |x::a,b,k+1,h=>QhN (a:=a) (b:=b) (k:=k) h
theorem Qnl:∀{a:List (List Bool)} {k:Nat} {x:List Bool},a[k]?=some x→Qcq a k=x
 | [],_,_,h=>by simp at h
 |y::a,0,_,h=>by simp at h;exact h
 |y::a,k+1,_,h=>Qnl (a:=a) (k:=k) (by simpa using h)
theorem Qkb{As:List (List Bool)}{j:Nat}:∀{l:List Edge},QdT (Qj8 As l) j=true→∃e∈l,Region.binds .any e=true∧(j=e.on∨QdT (Qcq As e.on) j=true)
 | [],h=>by cases h
 |e::r,h=>by
  unfold Qj8 at h;split at h
  ·rename_i hb;rcases Qnk h with h|h
   ·rcases Qnk h with h|h
    ·exact⟨e,by simp,hb,.inl (Qka.1 h)⟩
    ·exact⟨e,by simp,hb,.inr h⟩
   ·obtain⟨e',h1,h2⟩:=Qkb h;exact⟨e',by simp[h1],h2⟩
  ·obtain⟨e',h1,h2⟩:=Qkb h;exact⟨e',by simp[h1],h2⟩
theorem Qkc{As:List (List Bool)}:∀{l:List Edge} {e:Edge},e∈l→Region.binds .any e=true→QdT (Qj8 As l) e.on=true
 |e'::r,e,h,hb=>by
  unfold Qj8;rcases Yt.1 h with rfl|h
  ·rw[hb];exact QhM (QhM (Qka.2 rfl))
  ·split
   ·exact QlE (Qkc h hb)
   ·exact Qkc h hb
structure AncOk(ops:List Oper)(As:List (List Bool)):Prop where
 out:∀(i:Nat) o,ops[i]?=some o→∀j,QdT (Qcq As i) j=true→∃e∈o.after,Region.binds .any e=true∧(j=e.on∨QdT (Qcq As e.on) j=true)
 in_:∀(i:Nat) o,ops[i]?=some o→∀e∈o.after,Region.binds .any e=true→QdT (Qcq As i) e.on=true
theorem QgN:∀(l:List Oper) (As:List (List Bool)) {K:List (List Bool)→Prop},Qdy l As K→∃Bs,K (As++Bs)∧∀(i:Nat) o,l[i]?=some o→Bs[i]?=some (Qj8 (As++Bs.take i) o.after.toList)
 | [],As,K,h=>⟨[],by simpa[Qdy] using h,fun i o ho=>by simp at ho⟩
 |o::r,As,K,h=>by
  unfold Qdy at h;rw[QhL,Qxf] at h;obtain⟨Bs,h1,h2⟩:=QgN r _ h;refine⟨Qj8 As o.after.toList::Bs,by simpa using h1,fun i o' ho=>?_⟩;cases i with
  |zero=>simp at ho;subst ho;simp
  |succ i=>have:=h2 i o' (by simpa using ho);simpa using this
theorem QI9{ops:List Oper}{K:List (List Bool)→Prop}(h:Qdy ops [] K):∃As,K As∧AncOk ops As:=by
 obtain⟨Bs,h1,h2⟩:=QgN ops [] h;simp only[List.nil_append] at h1 h2;refine⟨Bs,h1,fun i o ho j hj=>?_,fun i o ho e he hb=>?_⟩
 ·rw[Qnl (h2 i o ho)] at hj;obtain⟨e,he,hb,hh⟩:=Qkb hj;refine⟨e,by simpa using he,hb,hh.imp id fun hh=>?_⟩;have hne:Qcq (Bs.take i) e.on≠[]:=fun e=>by rw[e] at hh;cases hh
  have:=QhN (b:=Bs.drop i) hne;rw[List.take_append_drop] at this;rw[this];exact hh
 ·rw[Qnl (h2 i o ho)];exact Qkc (by simpa using he) hb
theorem QlF:∀(A:List Bool) (j:Nat),QdT (A.drop 1) j=QdT A (j+1)
 | [],_=>rfl
 |_::_,_=>rfl
theorem QlG:∀(A:List (List Bool)) (j:Nat),Qcq (A.drop 1) j=Qcq A (j+1)
 | [],_=>rfl
 |_::_,_=>rfl
theorem Qkd{i:Nat}{t:Tmp}:∀{ops:List Oper} {As:List (List Bool)} {A:List Bool} {ks:List Nat} {c:Nat},(∀(j n:Nat),ks[j]?=some n→n=c+j)→Qb5 i t ops As A ks=false→∀(k:Nat) o,ops[k]?=some o→o.dst=some t→c+k≠i→QdT A k=true∨QdT (Qcq As k) i=true
 | [],_,_,_,_,_,_,k,o,ho,_,_=>by simp at ho
 |_::_,_,_,[],_,_,h,_,_,_,_,_=>by simp[Qb5] at h
 |o'::os,As,A,n::ks,c,hk,h,k,o,ho,hd,hne=>by
  have hn:n=c:=by simpa using hk 0 n rfl
  subst hn
  have rest:Qb5 i t os (As.drop 1) (A.drop 1) ks=false:=by
   unfold Qb5 at h;split at h
   ·split at h
    ·split at h
     ·exact h
     ·split at h
      ·exact h
      ·split at h
       ·exact h
       ·cases h
    ·exact h
   ·exact h
  cases k with
  |succ k =>
   have:=Qkd (c:=n+1) (fun j m hm=>by have:=hk (j+1) m (by simpa using hm);omega) rest k o (by simpa using ho) hd (by omega);rwa[QlF,QlG] at this
  |zero =>
   simp at ho;subst ho;unfold Qb5 at h;rw[hd] at h;simp only[Nat.beq_refl] at h;split at h
   ·exact .inl ‹_›
   ·split at h
    ·exact .inr ‹_›
    ·split at h
     ·rename_i hb;exact YD (Yg hb) (by omega)
     ·cases h
theorem QJa(w:W1)(k:W1→Prop):fW w k=k w:=by cases w<;>simp only[fW,QjS]
theorem Qs9:∀(l:List W1) (k:List W1→Prop),fWs l k=k l
 | [],k=>rfl
 |c::cs,k=>by unfold fWs;rw[QJa,Qs9 cs]
theorem QlH{c:W1}{r:List W1}{b:Nat}(h:QxA (c::r) b=false):Qw6 c b=false∧QxA r b=false:=by
 unfold QxA at h;split at h
 ·cases h
 ·exact⟨‹_›,h⟩
theorem Qta{i b:Nat}:∀{es:List W1} {As:List (List Bool)} {A:List Bool} {ks:List Nat} {c:Nat},(∀(j n:Nat),ks[j]?=some n→n=c+j)→QxA (Qq8 i es As A ks) b=false→∀k,Qw6 (QsA es k) b=true→c+k≠i→QdT A k=true∨QdT (Qcq As k) i=true
 | [],_,_,_,_,_,_,k,hk,_=>by cases hk
 |_::_,_,_,[],_,_,h,_,_,_=>by simp[Qq8,QxA,Qw6] at h
 |e::es,As,A,n::ks,c,hk,h,k,he,hne=>by
  have hn:n=c:=by simpa using hk 0 n rfl
  subst hn
  have rest:QxA (Qq8 i es (As.drop 1) (A.drop 1) ks) b=false:=by
   unfold Qq8 at h;split at h
   ·exact h
   ·split at h
    ·exact h
    ·split at h
     ·exact h
     ·split at h
      ·exact h
      ·exact(QlH h).2
  cases k with
  |succ k =>
   have:=Qta (c:=n+1) (fun j m hm=>by have:=hk (j+1) m (by simpa using hm);omega) rest k he (by omega);rwa[QlF,QlG] at this
  |zero =>
   have he:Qw6 e b=true:=he;unfold Qq8 at h;split at h
   ·cases he
   ·split at h
    ·rename_i hb;exact YD (Yg hb) (by omega)
    ·split at h
     ·exact .inl ‹_›
     ·split at h
      ·exact .inr ‹_›
      ·rw[(QlH h).1] at he;cases he
theorem QlI{e:W1}:∀{l:List (Nat×Option Blk)},QoQ e l=true→∀n o,(n,o)∈l→Qw6 e n=true
 | [],_,n,o,h=>by cases h
 |(n',o')::r,h,n,o,hm=>by
  unfold QoQ at h;split at h
  ·rename_i hf;rcases Yt.1 hm with e|hm
   ·injection e with e1 e2;subst e1;exact hf
   ·exact QlI h n o hm
  ·cases h
theorem Qke{inc:List W1}{A:List Bool}{b:Nat}:∀{own:List (Nat×Nat×Nat)},QgW inc A b own=false→QxA inc b=false∧∀k n c,(k,n,c)∈own→n≤b→b<n+c→QdT A k=true
 | [],h=>⟨h,fun k n c hm=>by cases hm⟩
 |(k',n',c')::r,h=>by
  unfold QgW at h;split at h
  ·split at h
   ·rename_i hk;obtain⟨h1,h2⟩:=Qke h;refine⟨h1,fun k n c hm h3 h4=>?_⟩;rcases Yt.1 hm with e|hm
    ·injection e with e1 e2;subst e1;exact hk
    ·exact h2 k n c hm h3 h4
   ·cases h
  ·rename_i hf;obtain⟨h1,h2⟩:=Qke h;refine⟨h1,fun k n c hm h3 h4=>?_⟩;rcases Yt.1 hm with e|hm
   ·injection e with e1 e2
    injection e2 with e2 e3
    subst e1;subst e2;subst e3
    have:(Nat.ble n b&&Nat.blt b (n+c))=true:=by
     rw[Yj];exact⟨by rw[Nat.ble_eq];exact h3,by unfold Nat.blt;rw[Nat.ble_eq];omega⟩
    rw[this] at hf;cases hf
   ·exact h2 k n c hm h3 h4
theorem QhO{lk:Nat→Option Blk}:∀{l:List (Nat×Option Blk)},Qg5 lk l=true→∀n o,(n,o)∈l→∃x,lk n=some x
 | [],_,n,o,h=>by cases h
 |(n',o')::r,h,n,o,hm=>by
  unfold Qg5 at h;split at h
  ·cases h
  ·rename_i x hf;rcases Yt.1 hm with e|hm
   ·injection e with e1 e2;subst e1;exact⟨x,hf⟩
   ·exact QhO h n o hm
theorem Qkf(j n:Nat)(h:lits[j]?=some n):n=0+j:=by
 have e:lits=List.range lits.length:=by decide +kernel
 rw[e] at h;rcases Jp j lits.length with h1|h1
 ·rw[List.getElem?_range h1] at h;injection h with h;omega
 ·rw[YK (by simpa using h1)] at h;cases h
end Go.Fw

