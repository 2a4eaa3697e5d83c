/- Part 36 of the proof. Conditions: none. -/
import Derived.Test.YtofgbclopbmlcaaGreatG34
import Derived.Test.YtofgbclopbmlcaaGreatG35
import Derived.Test.YtofgbclopbmlcaaGreatG27
import Derived.Test.YtofgbclopbmlcaaGreatG26
namespace Go.Proofs.YtofgbclopbmlcaaGreat
set_option maxHeartbeats 4000000
open Go.Fw
set_option linter.unusedVariables false
set_option linter.unusedSimpArgs false
set_option linter.constructorNameAsVariable false
set_option maxRecDepth 100000
abbrev Qw:Ty:=.pair (.int .i64) (.pair .str (.int .i64))
abbrev Inp:=Int×ByteArray×Int
abbrev gIn:Sig:=⟨false,.sl Qw⟩
def QdI(f:Cv→Dv→Dv)(cs:List Cv)(ds:List Dv)(k:Nat):List Dv:=List.zipWith f (cs.take k) (ds.take k)++ds.drop k
theorem QfQ(f:Cv→Dv→Dv)(cs:List Cv)(ds:List Dv):QdI f cs ds 0=ds:=by unfold QdI;simp
theorem QbC{f:Cv→Dv→Dv}{cs:List Cv}{ds:List Dv}(h:cs.length=ds.length){k:Nat}(hk:cs.length≤k):QdI f cs ds k=List.zipWith f cs ds:=by
 unfold QdI;rw[List.take_of_length_le hk,List.take_of_length_le (by omega),List.drop_of_length_le (by omega),List.append_nil]
theorem Qg6{f:Cv→Dv→Dv}{cs:List Cv}{ds:List Dv}(h:cs.length=ds.length){k:Nat}(hk:k≤cs.length):(List.zipWith f (cs.take k) (ds.take k)).length=k:=by
 rw[List.length_zipWith,List.length_take,List.length_take];omega
theorem QbQ{f:Cv→Dv→Dv}{cs:List Cv}{ds:List Dv}(h:cs.length=ds.length){k:Nat}(hk:k≤cs.length):(QdI f cs ds k).length=ds.length:=by
 unfold QdI;rw[List.length_append,Qg6 h hk,List.length_drop];omega
theorem QbR{f:Cv→Dv→Dv}{cs:List Cv}{ds:List Dv}(h:cs.length=ds.length){k:Nat}(hk:k<cs.length)(d:Dv):(QdI f cs ds k).getD k d=ds.getD k d:=by
 unfold QdI;rw[List.getD_eq_getElem?_getD,List.getElem?_append_right (by rw[Qg6 h (by omega)];omega),Qg6 h (by omega),Nat.sub_self,List.getElem?_drop,Nat.add_zero,←List.getD_eq_getElem?_getD]
theorem Qbk{f:Cv→Dv→Dv}{cs:List Cv}{ds:List Dv}(h:cs.length=ds.length){k:Nat}(hk:k<cs.length)(c0:Cv)(d0:Dv):(QdI f cs ds k).set k (f (cs.getD k c0) (ds.getD k d0))=QdI f cs ds (k+1):=by
 have e1:cs.take (k+1)=cs.take k++[cs.getD k c0]:=by rw[List.take_add_one,List.getD_eq_getElem?_getD,List.getElem?_eq_getElem hk];rfl
 have e2:ds.take (k+1)=ds.take k++[ds.getD k d0]:=by rw[List.take_add_one,List.getD_eq_getElem?_getD,List.getElem?_eq_getElem (show k<ds.length by omega)];rfl
 have e3:ds.drop k=ds.getD k d0::ds.drop (k+1):=by rw[List.drop_eq_getElem_cons (show k<ds.length by omega),List.getD_eq_getElem?_getD,List.getElem?_eq_getElem (show k<ds.length by omega)];rfl
 have hl:=Qg6 (f:=f) h (k:=k) (by omega);unfold QdI;rw[e1,e2,e3,List.set_append,if_neg (by omega),hl,Nat.sub_self,List.set_cons_zero,List.zipWith_append (by rw[List.length_take,List.length_take];omega)];simp
theorem QkH{f:Cv→Dv→Dv}{cs:List Cv}{ds:List Dv}(h:cs.length=ds.length){k:Nat}(hk:k<cs.length){c0:Cv}{d0:Dv}(e:f (cs.getD k c0) (ds.getD k d0)=ds.getD k d0):QdI f cs ds k=QdI f cs ds (k+1):=by
 have h1:=Qbk (f:=f) h hk c0 d0;have hlt:k<(QdI f cs ds k).length:=by rw[QbQ h (by omega)];omega
 rw[e,←QbR (f:=f) h hk d0] at h1;rw[←h1];apply List.ext_getElem?;intro i;rw[List.getElem?_set];split
 ·rename_i hi;subst hi;rw[List.getD_eq_getElem?_getD,List.getElem?_eq_getElem hlt];rfl
 ·rfl
def Qe5(x:Inp)(c:Cv)(d:Dv):Dv:=if Qm c.1 x.2.1=true then Qmc c d x.2.2 else d
def QdA(bc:List Cv)(t:Int)(s:List Dv×Bool)(x:Inp):List Dv×Bool :=
 if x.1≠t then s else if Qm x.2.1 QaP=true then (s.1,true) else (List.zipWith (Qe5 x) bc s.1,s.2)
def QJ(bc:List Cv)(t:Int)(l:List Inp)(s:List Dv×Bool):List Dv×Bool:=l.foldl (QdA bc t) s
def QkI(bc:List Cv)(t:Int)(l:List Inp)(s:List Dv×Bool)(k:Nat):List Dv×Bool:=QJ bc t (l.take k) s
theorem Qjn{bc:List Cv}{t:Int}{l:List Inp}{s:List Dv×Bool}{k:Nat}(hk:k<l.length)(x0:Inp):QkI bc t l s (k+1)=QdA bc t (QkI bc t l s k) (l.getD k x0):=by
 unfold QkI QJ;rw[List.take_add_one,List.foldl_append,List.getD_eq_getElem?_getD,List.getElem?_eq_getElem hk];rfl
theorem Qmp{bc:List Cv}{t:Int}{l:List Inp}{s:List Dv×Bool}{k:Nat}(hk:l.length≤k):QkI bc t l s k=QJ bc t l s:=by
 unfold QkI;rw[List.take_of_length_le hk]
def Qbw:List Bool→List Cv→List Dv→Bool
 |h::hs,c::cs,d::ds=>(h&&Qaz c d)||Qbw hs cs ds
 |_,_,_=>false
def Qz(b:Bd)(ds:List Dv):Bool:=Qbw (Qbj b.2.2.2 b.2.2.1) b.2.2.1 ds
def QaV(b:Bd)(ds:List Dv)(x:Bsv):List Dv :=
 if 0≤Qn b x.2.1 then
  (if x.1=1 then ds.set (Qn b x.2.1).toNat (loadD (b.2.2.1.getD (Qn b x.2.1).toNat (dflt Qe)) (ds.getD (Qn b x.2.1).toNat (dflt Qj)) (atF b x.2.1))
   else if x.1=2 then ds.set (Qn b x.2.1).toNat (Qbb (b.2.2.1.getD (Qn b x.2.1).toNat (dflt Qe)) (ds.getD (Qn b x.2.1).toNat (dflt Qj)) (atF b x.2.1) x.2.2) else ds)
 else ds
def QbY(b:Bd)(ds:List Dv)(x:Bsv):Int :=
 if x.1=1 then (if 0≤Qn b x.2.1 then loadI (b.2.2.1.getD (Qn b x.2.1).toNat (dflt Qe)) (ds.getD (Qn b x.2.1).toNat (dflt Qj)) (atF b x.2.1) else 255) else x.2.2
def Qfe(t:Int):List Cv→List Dv→List Int→List Inp
 |c::cs,d::ds,n::ns=>if Qal c d=n then Qfe t cs ds ns else (t,c.1,Qal c d)::Qfe t cs ds ns
 |_,_,_=>[]
theorem Qp3(t:Int):∀(cs:List Cv) (ds:List Dv) (ns:List Int) (cs':List Cv) (ds':List Dv) (ns':List Int),cs.length=ds.length→cs.length=ns.length→Qfe t (cs++cs') (ds++ds') (ns++ns')=Qfe t cs ds ns++Qfe t cs' ds' ns'
 | [],[],[],cs',ds',ns',_,_=>rfl
 |c::cs,d::ds,n::ns,cs',ds',ns',h,h2=>by
  simp only[List.cons_append,Qfe];rw[Qp3 t cs ds ns cs' ds' ns' (by simpa using h) (by simpa using h2)];split<;>rfl
 | [],_::_,_,_,_,_,h,_=>by simp at h
 | [],[],_::_,_,_,_,_,h=>by simp at h
 |_::_,[],_,_,_,_,h,_=>by simp at h
 |_::_,_::_,[],_,_,_,_,h=>by simp at h
theorem Qbr(t:Int):∀(cs:List Cv) (ds:List Dv) (ns:List Int),(Qfe t cs ds ns).length≤cs.length
 | [],ds,ns=>by simp[Qfe]
 |c::cs,[],ns=>by simp[Qfe]
 |c::cs,d::ds,[]=>by simp[Qfe]
 |c::cs,d::ds,n::ns=>by
  have:=Qbr t cs ds ns;simp only[Qfe,List.length_cons];split
  ·omega
  ·simp only[List.length_cons];omega
def newK(t:Int)(cs:List Cv)(ds:List Dv)(ns:List Int)(k:Nat):List Inp:=Qfe t (cs.take k) (ds.take k) (ns.take k)
theorem Qdg{t:Int}{cs:List Cv}{ds:List Dv}{ns:List Int}(h:cs.length=ds.length)(h2:cs.length=ns.length){k:Nat}(hk:k<cs.length)(c0:Cv)(d0:Dv) :
 newK t cs ds ns (k+1)=newK t cs ds ns k++(if Qal (cs.getD k c0) (ds.getD k d0)=ns.getD k 0 then [] else [(t,(cs.getD k c0).1,Qal (cs.getD k c0) (ds.getD k d0))]):=by
 have e1:cs.take (k+1)=cs.take k++[cs.getD k c0]:=by rw[List.take_add_one,List.getD_eq_getElem?_getD,List.getElem?_eq_getElem hk];rfl
 have e2:ds.take (k+1)=ds.take k++[ds.getD k d0]:=by rw[List.take_add_one,List.getD_eq_getElem?_getD,List.getElem?_eq_getElem (show k<ds.length by omega)];rfl
 have e3:ns.take (k+1)=ns.take k++[ns.getD k 0]:=by rw[List.take_add_one,List.getD_eq_getElem?_getD,List.getElem?_eq_getElem (show k<ns.length by omega)];rfl
 unfold newK;rw[e1,e2,e3,Qp3 t _ _ _ _ _ _ (by rw[List.length_take,List.length_take];omega) (by rw[List.length_take,List.length_take];omega)];congr 1
def Qcc(t:Int):Int:=max (-1) (min t 1099511627775)+1
def Qo(b:Bd)(m:Mach)(l:List Inp):Mach×List Inp :=
 let g:=QJ b.2.2.1 m.1 l (m.2.2.1,m.2.1.2.2.2);let a:=Qk b.2.1 (m.2.1.1,m.2.1.2.1,m.2.1.2.2.1,g.2) (Qz b g.1);let ds:=List.zipWith Qh b.2.2.1 (QaV b g.1 a.2)
 ((Qcc m.1,QI b.2.1 a.1 (QbY b g.1 a.2),ds,a.2.1,a.2.2.1,QbY b g.1 a.2),Qfe m.1 b.2.2.1 ds (List.zipWith Qal b.2.2.1 m.2.2.1))
def QbE(b:Bd)(l:List Inp):Nat→Mach×List Inp→Mach×List Inp
 |0,s=>s
 |n+1,s=>QbE b l n ((Qo b s.1 l).1,s.2++(Qo b s.1 l).2)
structure BdX where
 bn:ByteArray
 un:ByteArray
 ui:List Ins
 ur:List Cyc
 uq:List Cyc
 um:List Cyc
 bc:List Cv
 bw:List Wr
structure McX where
 tm:Int
 r:List Int
 op:Int
 at_:Int
 nmi:Bool
 ds:List Dv
 bd:Int
 ba:Int
 bdt:Int
@[reducible] def bdA(b:BdX):List Cell:=[.imm (.string b.bn),.imm (.string b.un),.ro QaA b.ui,.ro Qs b.ur,.ro Qs b.uq,.ro Qs b.um,.ro Qe b.bc,.ro Qr b.bw]
@[reducible] def mcA(m:McX):List Cell:=[iv .i64 m.tm,.run .i64 9 m.r,iv .i64 m.op,iv .i64 m.at_,bv m.nmi,.own 1,iv .i64 m.bd,iv .i64 m.ba,iv .i64 m.bdt]
structure StX where
 b:BdX
 m:McX
 l:List Inp
def QI9:List V1→List Blk→Option StX:=fun a b=>match a,b with
 | [.agg [.imm (.string bn),.imm (.string un),.ro (.pair (.int .i64) (.pair .str (.pair (.int .i64) (.sl (.pair (.int .i64) (.pair (.int .i64) (.pair (.int .i64) (.sl (.pair (.int .i64) (.pair (.int .i64) (.pair (.int .i64) (.int .i64)))))))))))) ui,.ro (.pair (.int .i64) (.pair (.int .i64) (.pair (.int .i64) (.sl (.pair (.int .i64) (.pair (.int .i64) (.pair (.int .i64) (.int .i64)))))))) ur,.ro (.pair (.int .i64) (.pair (.int .i64) (.pair (.int .i64) (.sl (.pair (.int .i64) (.pair (.int .i64) (.pair (.int .i64) (.int .i64)))))))) uq,.ro (.pair (.int .i64) (.pair (.int .i64) (.pair (.int .i64) (.sl (.pair (.int .i64) (.pair (.int .i64) (.pair (.int .i64) (.int .i64)))))))) um,.ro (.pair .str (.pair (.int .i64) (.pair (.int .i64) (.pair (.int .i64) (.sl (.int .u8)))))) bc,.ro (.pair .str .str) bw],.c (.ptr 0 0)],[.var [.imm (.int .i64 tm),.run .i64 9 r,.imm (.int .i64 op),.imm (.int .i64 at_),.imm (.bool nmi),.own 1,.imm (.int .i64 bd),.imm (.int .i64 ba),.imm (.int .i64 bdt)],.arr (.pair (.sl (.int .i64)) (.sl (.int .u8))) ds]=>some ⟨⟨bn,un,ui,ur,uq,um,bc,bw⟩,⟨tm,r,op,at_,nmi,ds,bd,ba,bdt⟩,[]⟩
 |_,_=>none
theorem QDi{a:List V1}{b:List Blk}{x:StX}(h:QI9 a b=some x):a=[.agg (bdA x.b),.c (.ptr 0 0)]∧b=[.var (mcA x.m),.arr Qj x.m.ds]:=by
 unfold QI9 at h;split at h
 ·injection h with h;subst h;exact⟨rfl,rfl⟩
 ·cases h
def QHf:List V1→List Blk→Option StX:=fun a b=>match a,b with
 | [.agg [.imm (.string bn),.imm (.string un),.ro (.pair (.int .i64) (.pair .str (.pair (.int .i64) (.sl (.pair (.int .i64) (.pair (.int .i64) (.pair (.int .i64) (.sl (.pair (.int .i64) (.pair (.int .i64) (.pair (.int .i64) (.int .i64)))))))))))) ui,.ro (.pair (.int .i64) (.pair (.int .i64) (.pair (.int .i64) (.sl (.pair (.int .i64) (.pair (.int .i64) (.pair (.int .i64) (.int .i64)))))))) ur,.ro (.pair (.int .i64) (.pair (.int .i64) (.pair (.int .i64) (.sl (.pair (.int .i64) (.pair (.int .i64) (.pair (.int .i64) (.int .i64)))))))) uq,.ro (.pair (.int .i64) (.pair (.int .i64) (.pair (.int .i64) (.sl (.pair (.int .i64) (.pair (.int .i64) (.pair (.int .i64) (.int .i64)))))))) um,.ro (.pair .str (.pair (.int .i64) (.pair (.int .i64) (.pair (.int .i64) (.sl (.int .u8)))))) bc,.ro (.pair .str .str) bw],.c (.ptr 0 0),.c (.ro (.pair (.int .i64) (.pair .str (.int .i64))) l)],[.var [.imm (.int .i64 tm),.run .i64 9 r,.imm (.int .i64 op),.imm (.int .i64 at_),.imm (.bool nmi),.own 1,.imm (.int .i64 bd),.imm (.int .i64 ba),.imm (.int .i64 bdt)],.arr (.pair (.sl (.int .i64)) (.sl (.int .u8))) ds]=>some ⟨⟨bn,un,ui,ur,uq,um,bc,bw⟩,⟨tm,r,op,at_,nmi,ds,bd,ba,bdt⟩,l⟩
 |_,_=>none
theorem Qvv{a:List V1}{b:List Blk}{x:StX}(h:QHf a b=some x):a=[.agg (bdA x.b),.c (.ptr 0 0),.c (.ro Qw x.l)]∧b=[.var (mcA x.m),.arr Qj x.m.ds]:=by
 unfold QHf at h;split at h
 ·injection h with h;subst h;exact⟨rfl,rfl⟩
 ·cases h
def BdX.v(b:BdX):Bd:=(b.bn,(b.un,b.ui,b.ur,b.uq,b.um),b.bc,b.bw)
def McX.v(m:McX):Mach:=(m.tm,(m.r,m.op,m.at_,m.nmi),m.ds,m.bd,m.ba,m.bdt)
theorem QkJ{α β γ:Type}{f:α→β→γ}:∀{l:List α} {m:List β} {z:γ},z∈List.zipWith f l m→∃x∈l,∃y∈m,z=f x y
 | [],m,z,h=>by simp at h
 |x::l,[],z,h=>by simp at h
 |x::l,y::m,z,h=>by
  rw[List.zipWith_cons_cons] at h;rcases List.mem_cons.1 h with rfl|h
  ·exact⟨x,List.mem_cons_self ..,y,List.mem_cons_self ..,rfl⟩
  ·obtain⟨a,ha,b,hb,e⟩:=QkJ h;exact⟨a,List.mem_cons_of_mem _ ha,b,List.mem_cons_of_mem _ hb,e⟩
def Qrz(L:Nat)(cs:List Cv):Prop:=∀c∈cs,cP c∧List.length c.2.2.2.2+70000≤L
def Qg7(L:Nat)(ds:List Dv):Prop:=∀d∈ds,OkD L d
theorem GoodD.ok{c:Cv}{L:Nat}{d:Dv}(h:GoodD c L d)(hL:List.length c.2.2.2.2+70000≤L):OkD L d:=⟨h.u,by have:=h.l;omega⟩
theorem OkD.dP{L:Nat}{d:Dv}(h:OkD L d)(hL:L≤140737488355328):dP d:=⟨Nat.le_trans h.l hL,h.u⟩
theorem Qy6(L:Nat):OkD L (dflt Qj):=⟨fun x hx=>(by cases hx),Nat.zero_le _⟩
theorem Qy7{L:Nat}(hL:70000≤L):cP (dflt Qe)∧List.length (dflt Qe).2.2.2.2+70000≤L:=⟨⟨⟨by decide,by decide⟩,⟨by decide,by decide⟩,by decide⟩,hL⟩
theorem Qrz.get{L:Nat}{cs:List Cv}(h:Qrz L cs)(hL:70000≤L)(k:Nat):cP (cs.getD k (dflt Qe))∧List.length (cs.getD k (dflt Qe)).2.2.2.2+70000≤L:=by
 by_cases hk:k<cs.length
 ·exact h _ (QG (dflt Qe) hk)
 ·rw[List.getD_eq_getElem?_getD,List.getElem?_eq_none (by omega)];exact Qy7 hL
theorem Qg7.get{L:Nat}{ds:List Dv}(h:Qg7 L ds)(k:Nat):OkD L (ds.getD k (dflt Qj)):=by
 by_cases hk:k<ds.length
 ·exact h _ (QG (dflt Qj) hk)
 ·rw[List.getD_eq_getElem?_getD,List.getElem?_eq_none (by omega)];exact Qy6 L
theorem Qg7.zip{L:Nat}{cs:List Cv}{ds:List Dv}{f:Cv→Dv→Dv}(hc:Qrz L cs)(hd:Qg7 L ds)(hf:∀c d,cP c→List.length c.2.2.2.2+70000≤L→OkD L d→OkD L (f c d)):Qg7 L (List.zipWith f cs ds):=by
 intro z hz;obtain⟨c,h1,d,h2,rfl⟩:=QkJ hz;exact hf c d (hc c h1).1 (hc c h1).2 (hd d h2)
theorem Qy8{L:Nat}(x:Inp)(c:Cv)(d:Dv)(hc:cP c)(hl:List.length c.2.2.2.2+70000≤L)(hd:OkD L d):OkD L (Qe5 x c d):=by
 unfold Qe5;split
 ·exact(QyC hc hd _).ok hl
 ·exact hd
theorem Qy9{L:Nat}{cs:List Cv}{t:Int}{s:List Dv×Bool}{x:Inp}(hc:Qrz L cs)(hs:Qg7 L s.1)(hl:cs.length=s.1.length):Qg7 L (QdA cs t s x).1∧(QdA cs t s x).1.length=s.1.length:=by
 unfold QdA;split
 ·exact⟨hs,rfl⟩
 ·split
  ·exact⟨hs,rfl⟩
  ·exact⟨hs.zip hc fun c d=>Qy8 x c d,by rw[List.length_zipWith];omega⟩
theorem Qeu{L:Nat}{cs:List Cv}{t:Int}(hc:Qrz L cs):∀(l:List Inp) {s:List Dv×Bool},Qg7 L s.1→cs.length=s.1.length→Qg7 L (QJ cs t l s).1∧(QJ cs t l s).1.length=s.1.length
 | [],s,hs,hl=>⟨hs,rfl⟩
 |x::l,s,hs,hl=>by
  have h1:=Qy9 (t:=t) (x:=x) hc hs hl;have h2:=Qeu (t:=t) hc l h1.1 (by omega);exact⟨h2.1,by rw[←h1.2];exact h2.2⟩
theorem Qg7.set{L:Nat}{ds:List Dv}(h:Qg7 L ds){d:Dv}(hd:OkD L d)(i:Nat):Qg7 L (ds.set i d):=by
 intro x hx;rcases List.mem_or_eq_of_mem_set hx with hx|rfl
 ·exact h x hx
 ·exact hd
theorem QdB{L:Nat}{b:Bd}{ds:List Dv}{x:Bsv}(hL:70000≤L)(hc:Qrz L b.2.2.1)(hd:Qg7 L ds):Qg7 L (QaV b ds x)∧(QaV b ds x).length=ds.length:=by
 have h1:=hc.get hL (Qn b x.2.1).toNat;have h2:=hd.get (Qn b x.2.1).toNat;unfold QaV;split
 ·split
  ·exact⟨hd.set ((Qme h1.1 h2 _).ok h1.2) _,List.length_set⟩
  ·split
   ·exact⟨hd.set ((Qjk h1.1 h2 _ _).ok h1.2) _,List.length_set⟩
   ·exact⟨hd,rfl⟩
 ·exact⟨hd,rfl⟩
theorem QbK{L:Nat}{cs:List Cv}{ds:List Dv}(hc:Qrz L cs)(hd:Qg7 L ds):Qg7 L (List.zipWith Qh cs ds) :=
 hd.zip hc fun c d h1 h2 h3=>(Qh8 h1 h3).ok h2
structure MOk(L:Nat)(b:Bd)(m:Mach):Prop where
 L1:70000≤L
 L2:L≤140737488355328
 c:Qrz L b.2.2.1
 d:Qg7 L m.2.2.1
 l:b.2.2.1.length=m.2.2.1.length
theorem Qp5{L:Nat}{b:Bd}{m:Mach}(l:List Inp)(h:MOk L b m):Qg7 L (Qo b m l).1.2.2.1∧(Qo b m l).1.2.2.1.length=m.2.2.1.length:=by
 have h1:=Qeu (t:=m.1) h.c l (s:=(m.2.2.1,m.2.1.2.2.2)) h.d h.l;have h2:=QdB (b:=b) (x:=(Qk b.2.1 (m.2.1.1,m.2.1.2.1,m.2.1.2.2.1,(QJ b.2.2.1 m.1 l (m.2.2.1,m.2.1.2.2.2)).2) (Qz b (QJ b.2.2.1 m.1 l (m.2.2.1,m.2.1.2.2.2)).1)).2) h.L1 h.c h1.1;refine⟨QbK h.c h2.1,?_⟩;show(List.zipWith Qh _ _).length=_;rw[List.length_zipWith,h2.2,h1.2];have:=h.l;dsimp only;omega
theorem Qza{L:Nat}{b:Bd}{m:Mach}(l:List Inp)(h:MOk L b m):MOk L b (Qo b m l).1:=by
 have h1:=Qp5 l h;exact⟨h.L1,h.L2,h.c,h1.1,h.l.trans h1.2.symm⟩
theorem Qij(r:List Int):∀n∈QE r,0≤n∧n<65536:=by
 intro n hn;unfold QE at hn;simp only[List.mem_cons,List.not_mem_nil,or_false] at hn;rcases hn with rfl|rfl|rfl|rfl|rfl|rfl|rfl|rfl|rfl<;>omega
def r16(r:List Int):Prop:=∀n∈r,0≤n∧n<65536
theorem QDk{r:List Int}(h:r16 r){v:Int}(hv:0≤v∧v<65536)(i:Nat):r16 (r.set i v):=by
 intro x hx;rcases List.mem_or_eq_of_mem_set hx with hx|rfl
 ·exact h x hx
 ·exact hv
theorem QAX(s:Stp)(r:List Int):r16 (doR s r):=by
 unfold doR;split
 ·exact Qij _
 ·exact Qij _
theorem Qvw:∀(l:List Stp) (r:List Int),r16 r→r16 (QeO l r).1
 | [],r,h=>h
 |s::l,r,h=>by
  unfold QeO;split
  ·exact QAX _ _
  ·exact Qvw l _ (QAX _ _)
theorem Qzb(x:Cyc){r:List Int}(h:r16 r)(d:Int):r16 (QbJ x r (d%256)):=by
 unfold QbJ;split
 ·exact QDk h (by omega) _
 ·exact h
theorem Qzc(c:Cpu)(k:Kor)(d:Int):r16 (QI c k d).1:=by
 have h0:=Qij k.1;have h1:=Qvw (doF c k.2.1 k.2.2.1).2.2.2 _ (Qzb (doF c k.2.1 k.2.2.1) (r:=QE k.1) h0 d);unfold QI
 repeat' split
 all_goals first
  |exact h0
  |exact h1
theorem Qzd{c:Cpu}{k:Kor}{d:Int}(h:Qam k.2.1)(h2:Qam k.2.2.1):Qam (QI c k d).2.1∧(Qam (QI c k d).2.2.1∨(QP c k.2.1).length>4611686018427387904):=by
 have hm:∀v:Int,-1≤v∧v≤1000→Qam v:=fun v hv=>by unfold Qam;omega
 have m1:=hm (-1) (by decide);have m0:=hm 0 (by decide);have m9:=hm 259 (by decide);unfold QI;split
 ·refine⟨?_,.inl (hm 0 (by decide))⟩;dsimp only
  repeat' split
  all_goals exact hm _ (by omega)
 ·split
  ·rename_i hc;have hc:(!decide (k.2.1=-1)&&(decide (0≤k.2.2.1)&&decide (k.2.2.1<(QP c k.2.1).length)))=true:=hc;simp only[Bool.and_eq_true,Bool.not_eq_true',decide_eq_true_eq,decide_eq_false_iff_not] at hc;split
   ·exact⟨m1,.inl m0⟩
   ·refine⟨h,?_⟩;by_cases hl:(QP c k.2.1).length>4611686018427387904
    ·exact .inr hl
    ·left;show Qam (k.2.2.1+1);unfold Qam;omega
  ·split
   ·exact⟨m9,.inl h2⟩
   ·exact⟨m1,.inl m0⟩
theorem QnN{r:List Int}(h:r16 r)(k:Nat):0≤r.getD k 0∧r.getD k 0<65536:=by
 by_cases hk:k<r.length
 ·rw[List.getD_eq_getElem?_getD,List.getElem?_eq_getElem hk];exact h _ (List.getElem_mem hk)
 ·rw[List.getD_eq_getElem?_getD,List.getElem?_eq_none (by omega)];decide
theorem Qvx(a:Int){r:List Int}(h:r16 r):0≤plA a r∧plA a r<66000:=by
 have h7:=QnN h 7;have h8:=QnN h 8;have h3:=QnN h 3;unfold plA
 repeat' split
 all_goals first
  |omega
  |(unfold QG6
    have:a=6∨a=7∨a=8∨a=9∨a=10∨a=11:=by omega
    rcases this with rfl|rfl|rfl|rfl|rfl|rfl<;>decide)
def QJ5(x:StX):Prop:=(x.l.length≤4611686018427387904∧x.b.bc.length≤4611686018427387904)∧∃L,MOk L x.b.v x.m.v
def QJ6:WSpec:=⟨StX,fun x=>[.agg (bdA x.b),.c (.ptr 0 0),.c (.ro Qw x.l)],fun x=>[.var (mcA x.m),.arr Qj x.m.ds],QHf,
 fun⟨⟨bn,un,ui,ur,uq,um,bc,bw⟩,⟨tm,r,op,at_,nmi,ds,bd,ba,bdt⟩,l⟩ =>
  (some (QJ5 ⟨⟨bn,un,ui,ur,uq,um,bc,bw⟩,⟨tm,r,op,at_,nmi,ds,bd,ba,bdt⟩,l⟩),.tup [],[some (.var [iv .i64 tm,.run .i64 9 r,iv .i64 op,iv .i64 at_,bv (QJ bc tm l (ds,nmi)).2,.own 1,iv .i64 bd,iv .i64 ba,iv .i64 bdt]),
    some (.arr Qj (QJ bc tm l (ds,nmi)).1)],[])⟩
theorem QDl{tm:Int}{r:List Int}{op at_:Int}{n:Bool}{bd ba i:Int}{d:List Dv}{p:List Dv×Bool}(h:(d,n)=p):[some (Blk.var [iv .i64 tm,.run .i64 9 r,iv .i64 op,iv .i64 at_,bv n,.own 1,iv .i64 bd,iv .i64 ba,iv .i64 i]),some (.arr Qj d)]=[some (Blk.var [iv .i64 tm,.run .i64 9 r,iv .i64 op,iv .i64 at_,bv p.2,.own 1,iv .i64 bd,iv .i64 ba,iv .i64 i]),some (.arr Qj p.1)]:=by
 subst h;rfl
theorem QDm:G0 131 QJ6.spec:=by
 have hP:S0 _:=Qa QDf (Qa QFk (Qb (T:=tree)));have hT:=tabs hP Qc;refine QJ6.gd hT hP Tryz.func131 (fun _ _ _ h=>Qvv h) fun(x:StX) hq=>?_
 obtain⟨⟨bn,un,ui,ur,uq,um,bc,bw⟩,⟨tm,r,op,at_,nmi,ds,bd,ba,bdt⟩,l⟩:=x;obtain⟨⟨hl,hbl⟩,L,hM⟩:QJ5 ⟨⟨bn,un,ui,ur,uq,um,bc,bw⟩,⟨tm,r,op,at_,nmi,ds,bd,ba,bdt⟩,l⟩:=hq _ rfl;clear hq;have hl:l.length≤4611686018427387904:=hl;have hbl:bc.length≤4611686018427387904:=hbl;have h2:bc.length=ds.length:=hM.l;have h3:Qrz L bc:=hM.c;have h4:Qg7 L ds:=hM.d;have hL:=hM.L2;clear hM
 repeat' first|(apply Ea;conv=>whnf)|apply Eb|apply Ec<;>intro _|apply Ed<;>intro _|apply Ee<;>intro _|apply Ef hT hP
 all_goals(try dsimp only[Qf] at *)
 refine QH hT hP (A:=List Dv×Bool) l.length (fun i s=>St.mk (E1 ((.cell (.ptr 0 0))::E1 ((.cell (.ptr 2 0))::E5 (E1 ((.cell (.ro Qw l))::(I l.length)::(I i)::E40 (E10 (E3 [])))))))
  [some (.var [iv .i64 tm,.run .i64 9 r,iv .i64 op,iv .i64 at_,bv s.2,.own 1,iv .i64 bd,iv .i64 ba,iv .i64 bdt]),some (.arr Qj s.1),some (.var [.imm (.string bn),.imm (.string un),.ro QaA ui,.ro Qs ur,.ro Qs uq,.ro Qs um,.ro Qe bc,.ro Qr bw])])
  (fun k s=>s=QkI bc tm l (ds,nmi) k) (ds,nmi) (Le.k [] [0,1,2] ?_) rfl fun k s hk hi=>?_
 ·repeat' constructor
 obtain⟨d0,n0⟩:=s
 have hok:Qg7 L d0∧d0.length=ds.length:=by
  have:=Qeu (t:=tm) h3 (l.take k) (s:=(ds,nmi)) h4 h2;have e:QJ bc tm (l.take k) (ds,nmi)=(d0,n0):=hi.symm;rw[e] at this;exact this
 have hst:k<l.length→QkI bc tm l (ds,nmi) (k+1)=QdA bc tm (d0,n0) (l.getD k (dflt Qw)):=fun h=>by rw[Qjn h (dflt Qw),←hi]
 repeat' first|(apply Ea;conv=>whnf)|apply Eb|apply Ec<;>intro _|apply Ed<;>intro _|apply Ee<;>intro _|apply Ef hT hP
 all_goals(try dsimp only[Qf] at *)
 ·have g:(k:Int)<(l.length:Int):=by assumption
  show 0≤(k:Int)∧(k:Int)<(l.length:Int);omega
 ·rename_i g g1;have g:(k:Int)<(l.length:Int):=g;have g1:((l.getD k (dflt Qw)).1 != tm)=true:=g1;have g1:(l.getD k (dflt Qw)).1≠tm:=by simpa using g1
  apply Ex (d0,n0) [] [0,1,2]
  ·repeat' constructor
  ·omega
  ·exact QL (by omega)
  rw[hst (by omega)];unfold QdA;rw[if_pos g1]
 ·rename_i g g1 g2;have g:(k:Int)<(l.length:Int):=g;have g1:((l.getD k (dflt Qw)).1 != tm)=false:=g1;have g1:(l.getD k (dflt Qw)).1=tm:=by simpa using g1
  have g2:Qm (l.getD k (dflt Qw)).2.1 QaP=true:=g2;apply Ex (d0,true) [] [0,1,2]
  ·repeat' constructor
  ·omega
  ·exact QL (by omega)
  rw[hst (by omega)];unfold QdA;rw[if_neg (fun h=>h g1),if_pos g2]
 ·rename_i g g1 g2;have g:(k:Int)<(l.length:Int):=g;have g1:((l.getD k (dflt Qw)).1 != tm)=false:=g1;have g1:(l.getD k (dflt Qw)).1=tm:=by simpa using g1
  have g2:Qm (l.getD k (dflt Qw)).2.1 QaP=false:=g2;have hst:=hst (by omega);unfold QdA at hst;rw[if_neg (fun h=>h g1),if_neg (by rw[g2];decide)] at hst;have hkk:l.getD (k:Int).toNat (dflt Qw)=l.getD k (dflt Qw):=rfl;rw[hkk];clear hkk g1 g2;generalize l.getD k (dflt Qw)=x at *;obtain⟨xa,xc,xn⟩:=x;have hdl:bc.length=d0.length:=by rw[hok.2];exact h2
  refine QH hT hP (A:=List Dv) bc.length (fun j d=>St.mk (E1 ((.cell (.ptr 0 0))::E1 ((.cell (.ptr 2 0))::E3 ((.cell (.ptr 3 0))::E2 ((.cell (.ro Qw l))::(I l.length)::(I k)::E20 (E2 ((.cell (.ro Qe bc))::(I bc.length)::(I j)::E20 (E5 (E3 [])))))))))
   [some (.var [iv .i64 tm,.run .i64 9 r,iv .i64 op,iv .i64 at_,bv n0,.own 1,iv .i64 bd,iv .i64 ba,iv .i64 bdt]),some (.arr Qj d),some (.var [.imm (.string bn),.imm (.string un),.ro QaA ui,.ro Qs ur,.ro Qs uq,.ro Qs um,.ro Qe bc,.ro Qr bw]),some (.var [iv .i64 xa,.imm (.string xc),iv .i64 xn])])
   (fun j d=>d=QdI (Qe5 (xa,xc,xn)) bc d0 j) d0 (Le.k [] [0,1,2,3] ?_) (QfQ _ _ _).symm fun j d hj hi2=>?_
  ·repeat' constructor
  have hdl2:j≤bc.length→d.length=d0.length:=fun h=>by rw[hi2];exact QbQ hdl h
  have hdg:j<bc.length→d.getD j (dflt Qj)=d0.getD j (dflt Qj):=fun h=>by rw[hi2];exact QbR hdl h _
  have hds:j<bc.length→d.set j (Qe5 (xa,xc,xn) (bc.getD j (dflt Qe)) (d0.getD j (dflt Qj)))=QdI (Qe5 (xa,xc,xn)) bc d0 (j+1):=fun h=>by rw[hi2];exact Qbk hdl h _ _
  repeat' first|(apply Ea;conv=>whnf)|apply Eb|apply Ec<;>intro _|apply Ed<;>intro _|apply Ee<;>intro _|apply Ef hT hP
  all_goals(try dsimp only[Qf] at *)
  ·have g2:(j:Int)<(bc.length:Int):=by assumption
   show 0≤(j:Int)∧(j:Int)<(bc.length:Int);omega
  ·have g2:(j:Int)<(bc.length:Int):=by assumption
   show 0≤(j:Int)∧(j:Int)<(d.length:Int);have:=hdl2 hj;omega
  ·have g2:(j:Int)<(bc.length:Int):=by assumption
   show j<d.length;have:=hdl2 hj;omega
  ·have g2:(j:Int)<(bc.length:Int):=by assumption
   have e:=hdg (by omega);refine⟨(h3 _ (QG (dflt Qe) (show j<bc.length by omega))).1,?_⟩;show dP (d.getD j (dflt Qj));rw[e];exact(hok.1.get j).dP hL
  ·have g2:(j:Int)<(bc.length:Int):=by assumption
   show 0≤(j:Int)∧(j:Int)<(d.length:Int);have:=hdl2 hj;omega
  ·have g2:(j:Int)<(bc.length:Int):=by assumption
   show j<d.length;have:=hdl2 hj;omega
  ·rename_i g2 g3;have g2:(j:Int)<(bc.length:Int):=g2;have g3:Qm (bc.getD j (dflt Qe)).1 xc=true:=g3
   have e:Qe5 (xa,xc,xn) (bc.getD j (dflt Qe)) (d0.getD j (dflt Qj))=Qmc (bc.getD j (dflt Qe)) (d.getD j (dflt Qj)) xn:=by
    unfold Qe5;rw[if_pos g3,hdg (by omega)]
   apply Ex _ [] [0,1,2,3]
   ·repeat' constructor
   ·omega
   ·exact QL (by omega)
   exact(congrArg (fun z=>d.set j z) e.symm).trans (hds (by omega))
  ·rename_i g2 g3;have g2:(j:Int)<(bc.length:Int):=g2;have g3:Qm (bc.getD j (dflt Qe)).1 xc=false:=g3
   have e:Qe5 (xa,xc,xn) (bc.getD j (dflt Qe)) (d0.getD j (dflt Qj))=d0.getD j (dflt Qj):=by
    unfold Qe5;rw[if_neg (by rw[g3];decide)]
   apply Ex d [] [0,1,2,3]
   ·repeat' constructor
   ·omega
   ·exact QL (by omega)
   exact hi2.trans (QkH hdl (by omega) e)
  ·rename_i g2;have g2:¬(j:Int)<(bc.length:Int):=g2;apply Ex (d,n0) [] [0,1,2]
   ·repeat' constructor
   ·omega
   ·exact QL (by omega)
   rw[hst,hi2,QbC hdl (by omega)]
 ·rename_i g;have g:¬(k:Int)<(l.length:Int):=g;have e2:(d0,n0)=QJ bc tm l (ds,nmi):=by rw[hi,Qmp (by omega)]
  exact .mk [] [0,1] _ R R R R R (QDl e2) rfl
def QJ7(b:BdX)(m:McX):Prop:=bP b.v m.ba∧b.bc.length=m.ds.length∧(∀c∈b.bc,cP c)∧∀d∈m.ds,dP d
def QJ8:WSpec:=⟨StX,fun x=>[.agg (bdA x.b),.c (.ptr 0 0)],fun x=>[.var (mcA x.m),.arr Qj x.m.ds],QI9,
 fun⟨⟨bn,un,ui,ur,uq,um,bc,bw⟩,⟨tm,r,op,at_,nmi,ds,bd,ba,bdt⟩,_⟩ =>
  (some (QJ7 ⟨bn,un,ui,ur,uq,um,bc,bw⟩ ⟨tm,r,op,at_,nmi,ds,bd,ba,bdt⟩),.tup [],[some (.var [iv .i64 tm,.run .i64 9 r,iv .i64 op,iv .i64 at_,bv nmi,.own 1,iv .i64 bd,iv .i64 ba,iv .i64 (QbY (bn,(un,ui,ur,uq,um),bc,bw) ds (bd,ba,bdt))]),
    some (.arr Qj (QaV (bn,(un,ui,ur,uq,um),bc,bw) ds (bd,ba,bdt)))],[])⟩
theorem Qik{tm:Int}{r:List Int}{op at_:Int}{nmi:Bool}{bd ba i i':Int}{d d':List Dv}(h:i=i')(h2:d=d'):[some (Blk.var [iv .i64 tm,.run .i64 9 r,iv .i64 op,iv .i64 at_,bv nmi,.own 1,iv .i64 bd,iv .i64 ba,iv .i64 i]),some (.arr Qj d)]=[some (Blk.var [iv .i64 tm,.run .i64 9 r,iv .i64 op,iv .i64 at_,bv nmi,.own 1,iv .i64 bd,iv .i64 ba,iv .i64 i']),some (.arr Qj d')]:=by
 subst h h2;rfl
theorem Qvy{b:Bd}{ds:List Dv}{x:Bsv}(h:0≤Qn b x.2.1)(h1:x.1=1):QbY b ds x=loadI (b.2.2.1.getD (Qn b x.2.1).toNat (dflt Qe)) (ds.getD (Qn b x.2.1).toNat (dflt Qj)) (atF b x.2.1):=by
 unfold QbY;rw[if_pos h1,if_pos h]
theorem Qvz{b:Bd}{ds:List Dv}{x:Bsv}(h:¬0≤Qn b x.2.1)(h1:x.1=1):QbY b ds x=255:=by
 unfold QbY;rw[if_pos h1,if_neg h]
theorem QfR{b:Bd}{ds:List Dv}{x:Bsv}(h1:¬x.1=1):QbY b ds x=x.2.2:=by
 unfold QbY;rw[if_neg h1]
theorem QvA{b:Bd}{ds:List Dv}{x:Bsv}(h:0≤Qn b x.2.1)(h1:x.1=1):QaV b ds x=ds.set (Qn b x.2.1).toNat (loadD (b.2.2.1.getD (Qn b x.2.1).toNat (dflt Qe)) (ds.getD (Qn b x.2.1).toNat (dflt Qj)) (atF b x.2.1)):=by
 unfold QaV;rw[if_pos h,if_pos h1]
theorem QvB{b:Bd}{ds:List Dv}{x:Bsv}(h:0≤Qn b x.2.1)(h1:x.1=2):QaV b ds x=ds.set (Qn b x.2.1).toNat (Qbb (b.2.2.1.getD (Qn b x.2.1).toNat (dflt Qe)) (ds.getD (Qn b x.2.1).toNat (dflt Qj)) (atF b x.2.1) x.2.2):=by
 unfold QaV;rw[if_pos h,if_neg (by omega),if_pos h1]
theorem Qjo{b:Bd}{ds:List Dv}{x:Bsv}(h:¬0≤Qn b x.2.1):QaV b ds x=ds:=by
 unfold QaV;rw[if_neg h]
theorem QvC{b:Bd}{ds:List Dv}{x:Bsv}(h1:¬x.1=1)(h2:¬x.1=2):QaV b ds x=ds:=by
 unfold QaV;rw[if_neg h1,if_neg h2,ite_self]
theorem QDn:G0 133 QJ8.spec:=by
 have hP:S0 _:=Qa Qd7 (Qa Qki (Qa Qh3 (Qb (T:=tree))));have hT:=tabs hP Qc;refine QJ8.gd hT hP Tryz.func133 (fun _ _ _ h=>QDi h) fun(x:StX) hq=>?_
 obtain⟨⟨bn,un,ui,ur,uq,um,bc,bw⟩,⟨tm,r,op,at_,nmi,ds,bd,ba,bdt⟩,l⟩:=x;obtain⟨h1,h2,h3,h4⟩:QJ7 ⟨bn,un,ui,ur,uq,um,bc,bw⟩ ⟨tm,r,op,at_,nmi,ds,bd,ba,bdt⟩:=hq _ rfl;clear hq;have h1:bP (bn,(un,ui,ur,uq,um),bc,bw) ba:=h1;have h2:bc.length=ds.length:=h2;have h3:∀c∈bc,cP c:=h3;have h4:∀d∈ds,dP d:=h4;by_cases hF:0≤Qn (bn,(un,ui,ur,uq,um),bc,bw) ba
 ·obtain⟨f2,f3⟩:=QcU (b:=(bn,(un,ui,ur,uq,um),bc,bw)) (a:=ba) hF;have f2:Qn (bn,(un,ui,ur,uq,um),bc,bw) ba<(bc.length:Nat):=f2;have hz:Qrx (bn,(un,ui,ur,uq,um),bc,bw) ba=true:=decide_eq_true hF;by_cases e1:bd=1
  ·subst e1
   repeat' first|(apply Ea;conv=>whnf)|apply Eb|apply Ec<;>intro _|apply Ed<;>intro _|apply Ee<;>intro _|apply Ef hT hP
   all_goals(try dsimp only[Qf] at *)
   all_goals clear hT hP
   all_goals first
    |exact h1
    |(exfalso;first|exact absurd hF (by assumption)|exact hF (by assumption)|(simp[hz] at *;done))
    |(show 0≤fI (bn,(un,ui,ur,uq,um),bc,bw) ba∧fI (bn,(un,ui,ur,uq,um),bc,bw) ba<(bc.length:Int);omega)
    |(show 0≤fI (bn,(un,ui,ur,uq,um),bc,bw) ba∧fI (bn,(un,ui,ur,uq,um),bc,bw) ba<(ds.length:Int);omega)
    |(show(fI (bn,(un,ui,ur,uq,um),bc,bw) ba).toNat<ds.length;omega)
    |exact⟨h3 _ (QG (dflt Qe) (show(fI (bn,(un,ui,ur,uq,um),bc,bw) ba).toNat<bc.length by omega)),h4 _ (QG (dflt Qj) (show(fI (bn,(un,ui,ur,uq,um),bc,bw) ba).toNat<ds.length by omega))⟩
    |skip
   refine .mk [] [0,1] _ R R R R R (Qik ?_ ?_) rfl
   ·rw[Qvy (b:=(bn,(un,ui,ur,uq,um),bc,bw)) (x:=(1,ba,bdt)) hF rfl];show loadI (bc.getD (fI (bn,(un,ui,ur,uq,um),bc,bw) ba).toNat (dflt Qe)) (ds.getD (fI (bn,(un,ui,ur,uq,um),bc,bw) ba).toNat (dflt Qj)) (atF (bn,(un,ui,ur,uq,um),bc,bw) ba)=_;rw[f3]
   ·rw[QvA (b:=(bn,(un,ui,ur,uq,um),bc,bw)) (x:=(1,ba,bdt)) hF rfl];show ds.set (fI (bn,(un,ui,ur,uq,um),bc,bw) ba).toNat (loadD (bc.getD (fI (bn,(un,ui,ur,uq,um),bc,bw) ba).toNat (dflt Qe)) (ds.getD (fI (bn,(un,ui,ur,uq,um),bc,bw) ba).toNat (dflt Qj)) (atF (bn,(un,ui,ur,uq,um),bc,bw) ba))=_;rw[f3]
  by_cases e2:bd=2
  ·subst e2
   repeat' first|(apply Ea;conv=>whnf)|apply Eb|apply Ec<;>intro _|apply Ed<;>intro _|apply Ee<;>intro _|apply Ef hT hP
   all_goals(try dsimp only[Qf] at *)
   all_goals clear hT hP
   all_goals first
    |exact h1
    |(exfalso;first|exact absurd hF (by assumption)|exact hF (by assumption)|(simp[hz] at *;done))
    |(show 0≤fI (bn,(un,ui,ur,uq,um),bc,bw) ba∧fI (bn,(un,ui,ur,uq,um),bc,bw) ba<(bc.length:Int);omega)
    |(show 0≤fI (bn,(un,ui,ur,uq,um),bc,bw) ba∧fI (bn,(un,ui,ur,uq,um),bc,bw) ba<(ds.length:Int);omega)
    |(show(fI (bn,(un,ui,ur,uq,um),bc,bw) ba).toNat<ds.length;omega)
    |exact⟨h3 _ (QG (dflt Qe) (show(fI (bn,(un,ui,ur,uq,um),bc,bw) ba).toNat<bc.length by omega)),h4 _ (QG (dflt Qj) (show(fI (bn,(un,ui,ur,uq,um),bc,bw) ba).toNat<ds.length by omega))⟩
    |skip
   refine .mk [] [0,1] _ R R R R R (Qik ?_ ?_) rfl
   ·exact(QfR (b:=(bn,(un,ui,ur,uq,um),bc,bw)) (ds:=ds) (x:=(2,ba,bdt)) (show¬(2:Int)=1 by decide)).symm
   ·rw[QvB (b:=(bn,(un,ui,ur,uq,um),bc,bw)) (x:=(2,ba,bdt)) hF rfl];show ds.set (fI (bn,(un,ui,ur,uq,um),bc,bw) ba).toNat (Qbb (bc.getD (fI (bn,(un,ui,ur,uq,um),bc,bw) ba).toNat (dflt Qe)) (ds.getD (fI (bn,(un,ui,ur,uq,um),bc,bw) ba).toNat (dflt Qj)) (atF (bn,(un,ui,ur,uq,um),bc,bw) ba) bdt)=_;rw[f3]
  ·repeat' first|(apply Ea;conv=>whnf)|apply Eb|apply Ec<;>intro _|apply Ed<;>intro _|apply Ee<;>intro _|apply Ef hT hP
   all_goals(try dsimp only[Qf] at *)
   all_goals clear hT hP
   all_goals first
    |exact h1
    |(exfalso;exact e1 (by assumption))
    |(exfalso;exact e2 (by assumption))
    |exact .mk [] [0,1] _ R R R R R (Qik (QfR (b:=(bn,(un,ui,ur,uq,um),bc,bw)) (ds:=ds) (x:=(bd,ba,bdt)) e1).symm (QvC (b:=(bn,(un,ui,ur,uq,um),bc,bw)) (ds:=ds) (x:=(bd,ba,bdt)) e1 e2).symm) rfl
    |skip
 ·have hz:Qrx (bn,(un,ui,ur,uq,um),bc,bw) ba=false:=decide_eq_false hF;by_cases e1:bd=1
  ·subst e1
   repeat' first|(apply Ea;conv=>whnf)|apply Eb|apply Ec<;>intro _|apply Ed<;>intro _|apply Ee<;>intro _|apply Ef hT hP
   all_goals(try dsimp only[Qf] at *)
   all_goals clear hT hP
   all_goals first
    |exact h1
    |(exfalso;first|exact absurd hF (by assumption)|exact hF (by assumption)|(simp[hz] at *;done))
    |exact .mk [] [0,1] _ R R R R R (Qik (Qvz (b:=(bn,(un,ui,ur,uq,um),bc,bw)) (ds:=ds) (x:=(1,ba,bdt)) hF rfl).symm (Qjo (b:=(bn,(un,ui,ur,uq,um),bc,bw)) (ds:=ds) (x:=(1,ba,bdt)) hF).symm) rfl
    |skip
  ·repeat' first|(apply Ea;conv=>whnf)|apply Eb|apply Ec<;>intro _|apply Ed<;>intro _|apply Ee<;>intro _|apply Ef hT hP
   all_goals(try dsimp only[Qf] at *)
   all_goals clear hT hP
   all_goals first
    |exact h1
    |(exfalso;exact e1 (by assumption))
    |exact .mk [] [0,1] _ R R R R R (Qik (QfR (b:=(bn,(un,ui,ur,uq,um),bc,bw)) (ds:=ds) (x:=(bd,ba,bdt)) e1).symm (Qjo (b:=(bn,(un,ui,ur,uq,um),bc,bw)) (ds:=ds) (x:=(bd,ba,bdt)) hF).symm) rfl
    |(exfalso;first|exact absurd hF (by assumption)|exact hF (by assumption)|(simp[hz] at *;done))
    |skip
end Go.Proofs.YtofgbclopbmlcaaGreat

