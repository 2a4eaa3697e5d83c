/- Part 40 of the proof. Conditions: none. -/
import Derived.Test.YtofgbclopbmlcaaGreatG34
import Derived.Test.YtofgbclopbmlcaaGreatG22
import Derived.Test.YtofgbclopbmlcaaGreatG38
import Derived.Test.YtofgbclopbmlcaaGreatG39
import Derived.Test.YtofgbclopbmlcaaGreatG25
import Derived.Test.YtofgbclopbmlcaaGreatG28
import Derived.Test.YtofgbclopbmlcaaGreatG35
import Derived.Test.YtofgbclopbmlcaaGreatG16
import Derived.Test.YtofgbclopbmlcaaGreatG33
import Derived.Test.YtofgbclopbmlcaaGreatG32
namespace Go.Proofs.YtofgbclopbmlcaaGreat
open Go.IntKind (i64)
set_option maxHeartbeats 4000000
open Go.Fw
set_option linter.unusedVariables false
set_option linter.unusedSimpArgs false
set_option linter.constructorNameAsVariable false
set_option maxRecDepth 100000
def Qsu(m:Mach):List Cell:=[iv .i64 m.1,.run .i64 9 m.2.1.1,iv .i64 m.2.1.2.1,iv .i64 m.2.1.2.2.1,bv m.2.1.2.2.2,.ro Qh m.2.2.1,iv .i64 m.2.2.2.1,iv .i64 m.2.2.2.2.1,iv .i64 m.2.2.2.2.2]
def Qk7:Mach:=(0,([0,0,0,0,0,0,0,0,0],0,0,false),[],0,0,0)
def comes(T:Option Mach)(F:List Int→Option Mach)(b:List Int)(bad:Bool):Prop:=(bad=false→T=F b)∧(bad=true→T=none)
theorem QEq{a:Bool}(h:(!a)=false):a=true:=by cases a<;>first|rfl|cases h
theorem Qwm{d:List Cv}{x:Inp}(h:(!d.any (inB x))=false):d.any (nmB x.2.1)=true:=QEq h
theorem Qwn{d:List Cv}{x:Inp}(h:(!Qm x.2.1 QaQ)=true)(h2:(!d.any (inB x))=true):¬(Qm x.2.1 QaQ=true∨d.any (nmB x.2.1)=true):=fun J=>by
 rcases J with J|J
 ·rw[J] at h;cases h
 ·have h3:d.any (inB x)=true:=J;rw[h3] at h2;cases h2
theorem Qwo:G0 13 Qk6.spec:=by
 have G:S0 _:=Qa Qwj (Qa QHH (Qb (T:=tree)));have L:=tabs G Qc;refine Qk6.gd L G Tryz.func13 fun(b:Bd) (m:Mach) (l:List Inp) hq=>?_
 obtain⟨F,hln⟩:stP b m l:=hq _ rfl;clear hq
 have j:QN b m l=if Qas b≠0 then Qas b else if m.2.2.1.length≠b.2.2.1.length then 3
  else if m.1<0∨m.1>1099511627776 then 1 else if l.length>500 then 2 else Qab (Qsr b.2.2.1 l) (List.range l.length):=rfl
 have K:b.2.2.1.length*64≤140737488351232:=F.1.1.1;obtain⟨D,⟨y,B,u,w,z⟩,d,C⟩:=b;obtain⟨tm,⟨r,op,at_,M⟩,ds,bd,ba,N⟩:=m;have K:d.length*64≤140737488351232:=K
 have j:QN (D,(y,B,u,w,z),d,C) (tm,(r,op,at_,M),ds,bd,ba,N) l=if Qas (D,(y,B,u,w,z),d,C)≠0 then Qas (D,(y,B,u,w,z),d,C) else if ds.length≠d.length then 3
  else if tm<0∨tm>1099511627776 then 1 else if l.length>500 then 2 else Qab (Qsr d l) (List.range l.length):=j
 repeat' first|(apply Ea;conv=>whnf)|apply Eb|apply Ec|apply Ed|apply Ee|(apply Ei;intro _)|apply Ef L G
 all_goals(try dsimp only[Qf] at *)
 ·exact F
 ·rename_i g;have g:=Qc2 (x:=Qas (D,(y,B,u,w,z),d,C)) g;refine .k [] [] _ rfl (Qd ?_);rw[j,Yf g]
 ·rename_i p g;have p:=QaS (x:=Qas (D,(y,B,u,w,z),d,C)) p;have g:=neN g;refine .k [] [] _ rfl (Qd ?_);rw[j,Yb (fun h=>h p),Yf g]
 ·rename_i p s e;have p:=QaS (x:=Qas (D,(y,B,u,w,z),d,C)) p;have s:=eqN s;have e:tm<0:=e;refine .k [] [] _ rfl (Qd ?_);rw[j,Yb (fun h=>h p),Yb (fun h=>h s),Yf (.inl e)]
 ·rename_i p s e c;have p:=QaS (x:=Qas (D,(y,B,u,w,z),d,C)) p;have s:=eqN s;have c:tm>1099511627776:=c;refine .k [] [] _ rfl (Qd ?_);rw[j,Yb (fun h=>h p),Yb (fun h=>h s),Yf (.inr c)]
 ·rename_i p s e c n;have p:=QaS (x:=Qas (D,(y,B,u,w,z),d,C)) p;have s:=eqN s;have e:¬tm<0:=e;have c:¬tm>1099511627776:=c;have n:(l.length:Int)>500:=n;refine .k [] [] _ rfl (Qd ?_);rw[j,Yb (fun h=>h p),Yb (fun h=>h s),Yb (by omega),Yf (by omega)]
 rename_i p s e c n;have p:=QaS (x:=Qas (D,(y,B,u,w,z),d,C)) p;have s:=eqN s;have e:¬tm<0:=e;have c:¬tm>1099511627776:=c;have n:¬(l.length:Int)>500:=n;rw[Yb (fun h=>h p),Yb (fun h=>h s),Yb (by omega),Yb (by omega)] at j
 refine QA L G (A:=Unit) l.length (fun i _=>St.mk (E2 ((.cell (.ro Qv l))::(.cell (.ptr 0 0))::E20 (E10 (E2 ((.cell (.ro Qv l))::(I l.length)::(I i)::E20 (E10 []))))))
  [some (.var [.imm (.string D),.imm (.string y),.ro Qap B,.ro Qp u,.ro Qp w,.ro Qp z,.ro Qe d,.ro Qo C])])
  (fun k _=>Qab (Qsr d l) ((List.range l.length).drop k)=Qab (Qsr d l) (List.range l.length)) () (Le.k [] [0] ?_) rfl fun k _ hk hi=>?_
 ·repeat' constructor
 have E:=fun h=>QiL (f:=Qsr d l) (k:=k) h hi
 have H:0<k→(i64.wrap ((k:Int)-1))=((k-1:Nat):Int):=fun h=>by rw[w64 (by omega) (by omega)];omega
 have q:Qsr d l k=if 0<k∧(l.getD k (dflt Qv)).1<(l.getD (k-1) (dflt Qv)).1 then 9
  else if Qm (l.getD k (dflt Qv)).2.1 QaQ=true∨d.any (nmB (l.getD k (dflt Qv)).2.1)=true then 0 else 4:=rfl
 clear p s e c F
 repeat' first|(apply Ea;conv=>whnf)|apply Eb|apply Ec|apply Ed|apply Ee|(apply Ei;intro _)|apply Ef L G
 all_goals(try dsimp only[Qf] at *)
 all_goals clear L G
 ·rename_i g;have g:(k:Int)<(l.length:Int):=by assumption
  show 0≤(k:Int)∧(k:Int)<(l.length:Int);omega
 ·rename_i g e;have g:(k:Int)<(l.length:Int):=by assumption
  have e:(k:Int)>0:=by assumption
  show 0≤i64.wrap ((k:Int)-1)∧i64.wrap ((k:Int)-1)<(l.length:Int);rw[H (by omega)];omega
 ·rename_i g e c;have g:(k:Int)<(l.length:Int):=g;have e:(k:Int)>0:=e;have c:(l.getD k (dflt Qv)).1<(l.getD (i64.wrap ((k:Int)-1)).toNat (dflt Qv)).1:=c;rw[H (by omega)] at c;have c:(l.getD k (dflt Qv)).1<(l.getD (k-1) (dflt Qv)).1:=c;rw[Yf ⟨by omega,c⟩] at q;refine .k [] [] _ rfl (Qd ?_);rw[j,←(E (by omega)).1 (by rw[q];decide),q]
 ·exact⟨by omega,trivial⟩
 ·rename_i g e c n t;have g:(k:Int)<(l.length:Int):=g;have c:¬(l.getD k (dflt Qv)).1<(l.getD (i64.wrap ((k:Int)-1)).toNat (dflt Qv)).1:=c;rw[H (by omega)] at c;have c:¬(l.getD k (dflt Qv)).1<(l.getD (k-1) (dflt Qv)).1:=c;rw[Yb (fun h=>c h.2)] at q;have n:(!Qm (l.getD k (dflt Qv)).2.1 QaQ)=true:=n;have t:(!d.any (inB (l.getD k (dflt Qv))))=true:=t;rw[Yb (Qwn n t)] at q;refine .k [] [] _ rfl (Qd ?_);rw[j,←(E (by omega)).1 (by rw[q];decide),q]
 ·rename_i g e c n t;have g:(k:Int)<(l.length:Int):=g;have c:¬(l.getD k (dflt Qv)).1<(l.getD (i64.wrap ((k:Int)-1)).toNat (dflt Qv)).1:=c;rw[H (by omega)] at c;have c:¬(l.getD k (dflt Qv)).1<(l.getD (k-1) (dflt Qv)).1:=c;have t:(!d.any (inB (l.getD k (dflt Qv))))=false:=t;rw[Yb (fun h=>c h.2),Yf (.inr (Qwm t))] at q;apply Ex () [] [0]
  ·repeat' constructor
  ·omega
  ·exact QJ (by omega)
  exact(E (by omega)).2 q
 ·rename_i g e c n;have g:(k:Int)<(l.length:Int):=g;have c:¬(l.getD k (dflt Qv)).1<(l.getD (i64.wrap ((k:Int)-1)).toNat (dflt Qv)).1:=c;rw[H (by omega)] at c;have c:¬(l.getD k (dflt Qv)).1<(l.getD (k-1) (dflt Qv)).1:=c;have n:(!Qm (l.getD k (dflt Qv)).2.1 QaQ)=false:=n;rw[Yb (fun h=>c h.2),Yf (.inl (QEq n))] at q;apply Ex () [] [0]
  ·repeat' constructor
  ·omega
  ·exact QJ (by omega)
  exact(E (by omega)).2 q
 ·exact⟨by omega,trivial⟩
 ·rename_i g e n t;have g:(k:Int)<(l.length:Int):=g;have e:¬(k:Int)>0:=e;rw[Yb (fun h=>by have:=h.1;omega)] at q;have n:(!Qm (l.getD k (dflt Qv)).2.1 QaQ)=true:=n;have t:(!d.any (inB (l.getD k (dflt Qv))))=true:=t;rw[Yb (Qwn n t)] at q;refine .k [] [] _ rfl (Qd ?_);rw[j,←(E (by omega)).1 (by rw[q];decide),q]
 ·rename_i g e n t;have g:(k:Int)<(l.length:Int):=g;have e:¬(k:Int)>0:=e;have t:(!d.any (inB (l.getD k (dflt Qv))))=false:=t;rw[Yb (fun h=>by have:=h.1;omega),Yf (.inr (Qwm t))] at q;apply Ex () [] [0]
  ·repeat' constructor
  ·omega
  ·exact QJ (by omega)
  exact(E (by omega)).2 q
 ·rename_i g e n;have g:(k:Int)<(l.length:Int):=g;have e:¬(k:Int)>0:=e;have n:(!Qm (l.getD k (dflt Qv)).2.1 QaQ)=false:=n;rw[Yb (fun h=>by have:=h.1;omega),Yf (.inl (QEq n))] at q;apply Ex () [] [0]
  ·repeat' constructor
  ·omega
  ·exact QJ (by omega)
  exact(E (by omega)).2 q
 ·rename_i g;have g:¬(k:Int)<(l.length:Int):=g;refine .k [] [] _ rfl (Qd ?_);rw[j,QjH (by omega) hi]
theorem QHR{a:List Cv}{ns:List ByteArray}{s:ByteArray}(E:Qdp a=ns)(h:(!ns.any (Qm s))=false):Qm s QaQ=true∨a.any (nmB s)=true:=(QjI a s).1 (by rw[E];simpa using h)
theorem QHS{a:List Cv}{ns:List ByteArray}{s:ByteArray}(E:Qdp a=ns)(h:(!ns.any (Qm s))=true):¬(Qm s QaQ=true∨a.any (nmB s)=true):=fun hh=>by
 have:=(QjI a s).2 hh;rw[E] at this;rw[this] at h;cases h
theorem QmP:G0 14 Qk6.spec:=by
 have F:S0 _:=Qa QmM (Qa QEy (Qb (T:=tree)));have J:=tabs F Qc;refine Qk6.gd J F Tryz.func14 fun(b:Bd) (m:Mach) (l:List Inp) hq=>?_
 obtain⟨H,hln⟩:stP b m l:=hq _ rfl;clear hq
 have j:QN b m l=if Qas b≠0 then Qas b else if m.2.2.1.length≠b.2.2.1.length then 3
  else if m.1<0∨m.1>1099511627776 then 1 else if l.length>500 then 2 else Qab (Qsr b.2.2.1 l) (List.range l.length):=rfl
 have M:b.2.2.1.length*64≤140737488351232:=H.1.1.1;obtain⟨D,⟨y,B,u,w,z⟩,a,C⟩:=b;obtain⟨tm,⟨r,op,at_,P⟩,ds,bd,ba,Q⟩:=m;have M:a.length*64≤140737488351232:=M
 have j:QN (D,(y,B,u,w,z),a,C) (tm,(r,op,at_,P),ds,bd,ba,Q) l=if Qas (D,(y,B,u,w,z),a,C)≠0 then Qas (D,(y,B,u,w,z),a,C) else if ds.length≠a.length then 3
  else if tm<0∨tm>1099511627776 then 1 else if l.length>500 then 2 else Qab (Qsr a l) (List.range l.length):=j
 repeat' first|(apply Ea;conv=>whnf)|apply Eb|apply Ec|apply Ed|apply Ee|(apply Ei;intro _)|apply Ef J F
 all_goals(try dsimp only[Qf] at *)
 ·exact H
 ·rename_i g;have g:=Qc2 (x:=Qas (D,(y,B,u,w,z),a,C)) g;refine .k [] [] _ rfl (Qd ?_);rw[j,Yf g]
 ·rename_i n g;have n:=QaS (x:=Qas (D,(y,B,u,w,z),a,C)) n;have g:=neN g;refine .k [] [] _ rfl (Qd ?_);rw[j,Yb (fun h=>h n),Yf g]
 ·rename_i n p d;have n:=QaS (x:=Qas (D,(y,B,u,w,z),a,C)) n;have p:=eqN p;have d:tm<0:=d;refine .k [] [] _ rfl (Qd ?_);rw[j,Yb (fun h=>h n),Yb (fun h=>h p),Yf (.inl d)]
 ·rename_i n p d c;have n:=QaS (x:=Qas (D,(y,B,u,w,z),a,C)) n;have p:=eqN p;have c:tm>1099511627776:=c;refine .k [] [] _ rfl (Qd ?_);rw[j,Yb (fun h=>h n),Yb (fun h=>h p),Yf (.inr c)]
 ·rename_i n p d c N;have n:=QaS (x:=Qas (D,(y,B,u,w,z),a,C)) n;have p:=eqN p;have d:¬tm<0:=d;have c:¬tm>1099511627776:=c;have N:(l.length:Int)>500:=N;refine .k [] [] _ rfl (Qd ?_);rw[j,Yb (fun h=>h n),Yb (fun h=>h p),Yb (by omega),Yf (by omega)]
 rename_i n p d c N;have n:=QaS (x:=Qas (D,(y,B,u,w,z),a,C)) n;have p:=eqN p;have d:¬tm<0:=d;have c:¬tm>1099511627776:=c;have N:¬(l.length:Int)>500:=N;rw[Yb (fun h=>h n),Yb (fun h=>h p),Yb (by omega),Yb (by omega)] at j
 refine QA J F (A:=List ByteArray) a.length (fun i o=>St.mk (E2 ((.cell (.ro Qv l))::E5 ((.cell (.own 0))::E20 (E5 (E3 (E1 ((.cell (.ro Qe a))::(I a.length)::(I i)::E20 (E10 (E5 [])))))))))
  [some (.arr .str o)])
  (fun k o=>o=Qdp (a.take k)) [QaQ] (Le.k [] [2] ?_) rfl fun k o hk G=>?_
 ·repeat' constructor
 repeat' first|(apply Ea;conv=>whnf)|apply Eb|apply Ec|apply Ed|apply Ee|(apply Ei;intro _)|apply Ef J F
 all_goals(try dsimp only[Qf] at *)
 ·rename_i g;have g:(k:Int)<(a.length:Int):=g;show 0≤(k:Int)∧(k:Int)<(a.length:Int);omega
 ·rename_i g;have g:(k:Int)<(a.length:Int):=g;have hz:o.length≤a.length+1:=by rw[G,Qdp,Yx,Jf,Yq];omega
  show(o.length+1)*16≤140737488355328;omega
 ·rename_i g;have g:(k:Int)<(a.length:Int):=g;apply Ex _ [] [3]
  ·repeat' constructor
  ·omega
  ·exact QJ (by omega)
  rw[G];exact(Qn5 (show k<a.length by omega)).symm
 rename_i gg;have gg:¬(k:Int)<(a.length:Int):=gg;have e:o=Qdp a:=by rw[G,Yh (by omega)]
 subst e;clear G hk gg;have L:(Qdp a).length≤4611686018427387904:=by rw[Qdp,Yx,Jf];omega
 generalize E:Qdp a=ns at *
 refine QA J F (A:=Unit) l.length (fun i _=>St.mk (E2 ((.cell (.ro Qv l))::E5 ((.cell (.own 0))::E40 (E1 ((.cell (.ro Qv l))::(I l.length)::(I i)::E20 (E3 []))))))
  [some (.arr .str ns)])
  (fun k _=>Qab (Qsr a l) ((List.range l.length).drop k)=Qab (Qsr a l) (List.range l.length)) () (Le.k [] [0] ?_) rfl fun k _ hk G=>?_
 ·repeat' constructor
 have K:=fun h=>QiL (f:=Qsr a l) (k:=k) h G
 have O:0<k→(i64.wrap ((k:Int)-1))=((k-1:Nat):Int):=fun h=>by rw[w64 (by omega) (by omega)];omega
 have t:Qsr a l k=if 0<k∧(l.getD k (dflt Qv)).1<(l.getD (k-1) (dflt Qv)).1 then 9
  else if Qm (l.getD k (dflt Qv)).2.1 QaQ=true∨a.any (nmB (l.getD k (dflt Qv)).2.1)=true then 0 else 4:=rfl
 clear n p d c H
 repeat' first|(apply Ea;conv=>whnf)|apply Eb|apply Ec|apply Ed|apply Ee|(apply Ei;intro _)|apply Ef J F
 all_goals(try dsimp only[Qf] at *)
 all_goals clear J F
 ·rename_i g;have g:(k:Int)<(l.length:Int):=by assumption
  show 0≤(k:Int)∧(k:Int)<(l.length:Int);omega
 ·rename_i g d;have g:(k:Int)<(l.length:Int):=by assumption
  have d:(k:Int)>0:=by assumption
  show 0≤i64.wrap ((k:Int)-1)∧i64.wrap ((k:Int)-1)<(l.length:Int);rw[O (by omega)];omega
 ·rename_i g d c;have g:(k:Int)<(l.length:Int):=g;have d:(k:Int)>0:=d;have c:(l.getD (i64.wrap ((k:Int)-1)).toNat (dflt Qv)).1>(l.getD k (dflt Qv)).1:=c;rw[O (by omega)] at c;have c:(l.getD k (dflt Qv)).1<(l.getD (k-1) (dflt Qv)).1:=c;rw[Yf ⟨by omega,c⟩] at t;refine .k [] [] _ rfl (Qd ?_);rw[j,←(K (by omega)).1 (by rw[t];decide),t]
 ·exact L
 ·rename_i g d c q;have g:(k:Int)<(l.length:Int):=g;have d:(k:Int)>0:=d;have c:¬(l.getD (i64.wrap ((k:Int)-1)).toNat (dflt Qv)).1>(l.getD k (dflt Qv)).1:=c;rw[O (by omega)] at c;have c:¬(l.getD k (dflt Qv)).1<(l.getD (k-1) (dflt Qv)).1:=c;have q:(!ns.any (Qm (l.getD k (dflt Qv)).2.1))=true:=q;rw[Yb (fun h=>c h.2),Yb (QHS E q)] at t;refine .k [] [] _ rfl (Qd ?_);rw[j,←(K (by omega)).1 (by rw[t];decide),t]
 ·rename_i g d c q;have g:(k:Int)<(l.length:Int):=g;have d:(k:Int)>0:=d;have c:¬(l.getD (i64.wrap ((k:Int)-1)).toNat (dflt Qv)).1>(l.getD k (dflt Qv)).1:=c;rw[O (by omega)] at c;have c:¬(l.getD k (dflt Qv)).1<(l.getD (k-1) (dflt Qv)).1:=c;have q:(!ns.any (Qm (l.getD k (dflt Qv)).2.1))=false:=q;rw[Yb (fun h=>c h.2),Yf (QHR E q)] at t;apply Ex () [] [0]
  ·repeat' constructor
  ·omega
  ·exact QJ (by omega)
  exact(K (by omega)).2 t
 ·exact L
 ·rename_i g d q;have g:(k:Int)<(l.length:Int):=g;have d:¬(k:Int)>0:=d;have q:(!ns.any (Qm (l.getD k (dflt Qv)).2.1))=true:=q;rw[Yb (fun h=>by have:=h.1;omega),Yb (QHS E q)] at t;refine .k [] [] _ rfl (Qd ?_);rw[j,←(K (by omega)).1 (by rw[t];decide),t]
 ·rename_i g d q;have g:(k:Int)<(l.length:Int):=g;have d:¬(k:Int)>0:=d;have q:(!ns.any (Qm (l.getD k (dflt Qv)).2.1))=false:=q;rw[Yb (fun h=>by have:=h.1;omega),Yf (QHR E q)] at t;apply Ex () [] [0]
  ·repeat' constructor
  ·omega
  ·exact QJ (by omega)
  exact(K (by omega)).2 t
 ·rename_i g;have g:¬(k:Int)<(l.length:Int):=g;refine .k [] [] _ rfl (Qd ?_);rw[j,QjH (by omega) G]
def QN9(b:Bd):Mach:=(0,([0,0,0,0,4,0,0,0,0],258,0,false),b.2.2.1.map Qed,0,0,0)
def newM(b:Bd):Mach:=if Qas b=0 then QN9 b else Qk7
theorem QkX{α β γ:Type}{f:α→β→γ}:∀{l:List α} {m:List β} {z:γ},z∈List.zipWith f l m→∃x∈l,∃y∈m,z=f x y
 | [],m,z,h=>by simp at h
 |x::l,[],z,h=>by simp at h
 |x::l,y::m,z,h=>by
  rw[List.zipWith_cons_cons] at h;rcases Yt.1 h with rfl|h
  ·exact⟨x,YZ ..,y,YZ ..,rfl⟩
  ·obtain⟨a,ha,b,hb,e⟩:=QkX h;exact⟨a,YP _ ha,b,YP _ hb,e⟩
def QrZ(L:Nat)(cs:List Cv):Prop:=∀c∈cs,cP c∧List.length c.2.2.2.2+70000≤L
def Qhl(L:Nat)(ds:List Dv):Prop:=∀d∈ds,OkD L d
theorem GoodD.ok{c:Cv}{L:Nat}{d:Dv}(h:GoodD c L d)(A:List.length c.2.2.2.2+70000≤L):OkD L d:=⟨h.u,by have:=h.l;omega⟩
theorem OkD.dP{L:Nat}{d:Dv}(h:OkD L d)(A:L≤140737488355328):dP d:=⟨YG h.l A,h.u⟩
theorem QzA(L:Nat):OkD L (dflt Qh):=⟨fun x w=>(by cases w),YR _⟩
theorem QzB{L:Nat}(A:70000≤L):cP (dflt Qe)∧List.length (dflt Qe).2.2.2.2+70000≤L:=⟨⟨⟨by decide,by decide⟩,⟨by decide,by decide⟩,by decide⟩,A⟩
theorem QrZ.get{L:Nat}{cs:List Cv}(h:QrZ L cs)(A:70000≤L)(k:Nat):cP (cs.getD k (dflt Qe))∧List.length (cs.getD k (dflt Qe)).2.2.2.2+70000≤L:=by
 by_cases D:k<cs.length
 ·exact h _ (QK (dflt Qe) D)
 ·rw[Yd,YK (by omega)];exact QzB A
theorem Qhl.get{L:Nat}{ds:List Dv}(h:Qhl L ds)(k:Nat):OkD L (ds.getD k (dflt Qh)):=by
 by_cases D:k<ds.length
 ·exact h _ (QK (dflt Qh) D)
 ·rw[Yd,YK (by omega)];exact QzA L
theorem Qhl.zip{L:Nat}{cs:List Cv}{ds:List Dv}{f:Cv→Dv→Dv}(j:QrZ L cs)(p:Qhl L ds)(hf:∀c d,cP c→List.length c.2.2.2.2+70000≤L→OkD L d→OkD L (f c d)):Qhl L (List.zipWith f cs ds):=by
 intro z hz;obtain⟨c,g,d,q,rfl⟩:=QkX hz;exact hf c d (j c g).1 (j c g).2 (p d q)
theorem QzC{L:Nat}(x:Inp)(c:Cv)(d:Dv)(j:cP c)(C:List.length c.2.2.2.2+70000≤L)(p:OkD L d):OkD L (Qfa x c d):=by
 unfold Qfa;split
 ·exact(Qy4 j p _).ok C
 ·exact p
theorem QzD{L:Nat}{cs:List Cv}{t:Int}{s:List Dv×Bool}{x:Inp}(j:QrZ L cs)(B:Qhl L s.1)(C:cs.length=s.1.length):Qhl L (QdH cs t s x).1∧(QdH cs t s x).1.length=s.1.length:=by
 unfold QdH;split
 ·exact⟨B,rfl⟩
 ·split
  ·exact⟨B,rfl⟩
  ·exact⟨B.zip j fun c d=>QzC x c d,by rw[Ja];omega⟩
theorem Qez{L:Nat}{cs:List Cv}{t:Int}(j:QrZ L cs):∀(l:List Inp) {s:List Dv×Bool},Qhl L s.1→cs.length=s.1.length→Qhl L (QM cs t l s).1∧(QM cs t l s).1.length=s.1.length
 | [],s,B,C=>⟨B,rfl⟩
 |x::l,s,B,C=>by
  have g:=QzD (t:=t) (x:=x) j B C;have q:=Qez (t:=t) j l g.1 (by omega);exact⟨q.1,by rw[←g.2];exact q.2⟩
theorem Qhl.set{L:Nat}{ds:List Dv}(h:Qhl L ds){d:Dv}(p:OkD L d)(i:Nat):Qhl L (ds.set i d):=by
 intro x w;rcases List.mem_or_eq_of_mem_set w with w|rfl
 ·exact h x w
 ·exact p
theorem QdI{L:Nat}{b:Bd}{ds:List Dv}{x:Bsv}(A:70000≤L)(j:QrZ L b.2.2.1)(p:Qhl L ds):Qhl L (QaX b ds x)∧(QaX b ds x).length=ds.length:=by
 have g:=j.get A (Qn b x.2.1).toNat;have q:=p.get (Qn b x.2.1).toNat;unfold QaX;split
 ·split
  ·exact⟨p.set ((Qms g.1 q _).ok g.2) _,YH⟩
  ·split
   ·exact⟨p.set ((Qjy g.1 q _ _).ok g.2) _,YH⟩
   ·exact⟨p,rfl⟩
 ·exact⟨p,rfl⟩
theorem QbS{L:Nat}{cs:List Cv}{ds:List Dv}(j:QrZ L cs)(p:Qhl L ds):Qhl L (List.zipWith Qg cs ds) :=
 p.zip j fun c d g q h3=>(Qio g h3).ok q
structure MOk(L:Nat)(b:Bd)(m:Mach):Prop where
 L1:70000≤L
 L2:L≤140737488355328
 c:QrZ L b.2.2.1
 d:Qhl L m.2.2.1
 l:b.2.2.1.length=m.2.2.1.length
theorem Qqo{L:Nat}{b:Bd}{m:Mach}(l:List Inp)(h:MOk L b m):Qhl L (Qs b m l).1.2.2.1∧(Qs b m l).1.2.2.1.length=m.2.2.1.length:=by
 have g:=Qez (t:=m.1) h.c l (s:=(m.2.2.1,m.2.1.2.2.2)) h.d h.l;have q:=QdI (b:=b) (x:=(Qk b.2.1 (m.2.1.1,m.2.1.2.1,m.2.1.2.2.1,(QM b.2.2.1 m.1 l (m.2.2.1,m.2.1.2.2.2)).2) (QC b (QM b.2.2.1 m.1 l (m.2.2.1,m.2.1.2.2.2)).1)).2) h.L1 h.c g.1;refine⟨QbS h.c q.1,?_⟩;show(List.zipWith Qg _ _).length=_;rw[Ja,q.2,g.2];have:=h.l;dsimp only;omega
theorem QzE{L:Nat}{b:Bd}{m:Mach}(l:List Inp)(h:MOk L b m):MOk L b (Qs b m l).1:=by
 have g:=Qqo l h;exact⟨h.L1,h.L2,h.c,g.1,h.l.trans g.2.symm⟩
theorem Qiy(r:List Int):∀n∈QH r,0≤n∧n<65536:=by
 intro n F;unfold QH at F;simp only[Yt,YF,or_false] at F;rcases F with rfl|rfl|rfl|rfl|rfl|rfl|rfl|rfl|rfl<;>omega
def r16(r:List Int):Prop:=∀n∈r,0≤n∧n<65536
theorem QEd{r:List Int}(h:r16 r){v:Int}(hv:0≤v∧v<65536)(i:Nat):r16 (r.set i v):=by
 intro x w;rcases List.mem_or_eq_of_mem_set w with w|rfl
 ·exact h x w
 ·exact hv
theorem QBK(s:Stp)(r:List Int):r16 (doR s r):=by
 unfold doR;split
 ·exact Qiy _
 ·exact Qiy _
theorem QvM:∀(l:List Stp) (r:List Int),r16 r→r16 (QeT l r).1
 | [],r,h=>h
 |s::l,r,h=>by
  unfold QeT;split
  ·exact QBK _ _
  ·exact QvM l _ (QBK _ _)
theorem QzF(x:Cyc){r:List Int}(h:r16 r)(d:Int):r16 (QbR x r (d%256)):=by
 unfold QbR;split
 ·exact QEd h (by omega) _
 ·exact h
theorem QzG(c:Cpu)(k:Kor)(d:Int):r16 (QL c k d).1:=by
 have h0:=Qiy k.1;have g:=QvM (doF c k.2.1 k.2.2.1).2.2.2 _ (QzF (doF c k.2.1 k.2.2.1) (r:=QH k.1) h0 d);unfold QL
 repeat' split
 all_goals first
  |exact h0
  |exact g
theorem QzH{c:Cpu}{k:Kor}{d:Int}(h:Q1 k.2.1)(q:Q1 k.2.2.1):Q1 (QL c k d).2.1∧(Q1 (QL c k d).2.2.1∨(QW c k.2.1).length>4611686018427387904):=by
 have E:∀v:Int,-1≤v∧v≤1000→Q1 v:=fun v hv=>by unfold Q1;omega
 have m1:=E (-1) (by decide);have m0:=E 0 (by decide);have m9:=E 259 (by decide);unfold QL;split
 ·refine⟨?_,.inl (E 0 (by decide))⟩;dsimp only
  repeat' split
  all_goals exact E _ (by omega)
 ·split
  ·rename_i j;have j:(!decide (k.2.1=-1)&&(decide (0≤k.2.2.1)&&decide (k.2.2.1<(QW c k.2.1).length)))=true:=j;simp only[Yj,Bool.not_eq_true',YB,decide_eq_false_iff_not] at j;split
   ·exact⟨m1,.inl m0⟩
   ·refine⟨h,?_⟩;by_cases C:(QW c k.2.1).length>4611686018427387904
    ·exact .inr C
    ·left;show Q1 (k.2.2.1+1);unfold Q1;omega
  ·split
   ·exact⟨m9,.inl q⟩
   ·exact⟨m1,.inl m0⟩
theorem QnY{r:List Int}(h:r16 r)(k:Nat):0≤r.getD k 0∧r.getD k 0<65536:=by
 by_cases D:k<r.length
 ·rw[Yd,Ye D];exact h _ (YW D)
 ·rw[Yd,YK (by omega)];decide
theorem QvN(a:Int){r:List Int}(h:r16 r):0≤plA a r∧plA a r<66000:=by
 have h7:=QnY h 7;have h8:=QnY h 8;have h3:=QnY h 3;unfold plA
 repeat' split
 all_goals first
  |omega
  |(unfold QIA
    have:a=6∨a=7∨a=8∨a=9∨a=10∨a=11:=by omega
    rcases this with rfl|rfl|rfl|rfl|rfl|rfl<;>decide)
def QL2(x:StX):Prop:=(x.l.length≤4611686018427387904∧x.b.bc.length≤4611686018427387904)∧∃L,MOk L x.b.v x.m.v
def QL3:WSpec:=⟨StX,fun x=>[.agg (bdA x.b),.c (.ptr 0 0),.c (.ro Qv x.l)],fun x=>[.var (mcA x.m),.arr Qh x.m.ds],QIK,
 fun⟨⟨X,M,O,J,K,N,a,W⟩,⟨tm,r,op,at_,f,ds,bd,E,B⟩,l⟩ =>
  (some (QL2 ⟨⟨X,M,O,J,K,N,a,W⟩,⟨tm,r,op,at_,f,ds,bd,E,B⟩,l⟩),.tup [],[some (.var [iv .i64 tm,.run .i64 9 r,iv .i64 op,iv .i64 at_,bv (QM a tm l (ds,f)).2,.own 1,iv .i64 bd,iv .i64 E,iv .i64 B]),
    some (.arr Qh (QM a tm l (ds,f)).1)],[])⟩
theorem QEg{tm:Int}{r:List Int}{op at_:Int}{n:Bool}{bd E i:Int}{d:List Dv}{p:List Dv×Bool}(h:(d,n)=p):[some (Blk.var [iv .i64 tm,.run .i64 9 r,iv .i64 op,iv .i64 at_,bv n,.own 1,iv .i64 bd,iv .i64 E,iv .i64 i]),some (.arr Qh d)]=[some (Blk.var [iv .i64 tm,.run .i64 9 r,iv .i64 op,iv .i64 at_,bv p.2,.own 1,iv .i64 bd,iv .i64 E,iv .i64 i]),some (.arr Qh p.1)]:=by
 subst h;rfl
theorem QEh:G0 131 QL3.spec:=by
 have F:S0 _:=Qa QD8 (Qa QGt (Qb (T:=tree)));have H:=tabs F Qc;refine QL3.gd H F Tryz.func131 (fun _ _ _ h=>QvL h) fun(x:StX) hq=>?_
 obtain⟨⟨X,M,O,J,K,N,a,W⟩,⟨tm,r,op,at_,f,ds,bd,E,B⟩,l⟩:=x;obtain⟨⟨hl,U⟩,L,V⟩:QL2 ⟨⟨X,M,O,J,K,N,a,W⟩,⟨tm,r,op,at_,f,ds,bd,E,B⟩,l⟩:=hq _ rfl;clear hq;have hl:l.length≤4611686018427387904:=hl;have U:a.length≤4611686018427387904:=U;have h2:a.length=ds.length:=V.l;have h3:QrZ L a:=V.c;have h4:Qhl L ds:=V.d;have hL:=V.L2;clear V
 repeat' first|(apply Ea;conv=>whnf)|apply Eb|apply Ec|apply Ed|apply Ee|(apply Ei;intro _)|apply Ef H F
 all_goals(try dsimp only[Qf] at *)
 refine QA H F (A:=List Dv×Bool) l.length (fun i s=>St.mk (E1 ((.cell (.ptr 0 0))::E1 ((.cell (.ptr 2 0))::E5 (E1 ((.cell (.ro Qv l))::(I l.length)::(I i)::E40 (E10 (E3 [])))))))
  [some (.var [iv .i64 tm,.run .i64 9 r,iv .i64 op,iv .i64 at_,bv s.2,.own 1,iv .i64 bd,iv .i64 E,iv .i64 B]),some (.arr Qh s.1),some (.var [.imm (.string X),.imm (.string M),.ro Qap O,.ro Qp J,.ro Qp K,.ro Qp N,.ro Qe a,.ro Qo W])])
  (fun k s=>s=QkW a tm l (ds,f) k) (ds,f) (Le.k [] [0,1,2] ?_) rfl fun k s hk Z=>?_
 ·repeat' constructor
 obtain⟨d0,n0⟩:=s
 have P:Qhl L d0∧d0.length=ds.length:=by
  have:=Qez (t:=tm) h3 (l.take k) (s:=(ds,f)) h4 h2;have e:QM a tm (l.take k) (ds,f)=(d0,n0):=Z.symm;rw[e] at this;exact this
 have w:k<l.length→QkW a tm l (ds,f) (k+1)=QdH a tm (d0,n0) (l.getD k (dflt Qv)):=fun h=>by rw[QjB h (dflt Qv),←Z]
 repeat' first|(apply Ea;conv=>whnf)|apply Eb|apply Ec|apply Ed|apply Ee|(apply Ei;intro _)|apply Ef H F
 all_goals(try dsimp only[Qf] at *)
 ·have g:(k:Int)<(l.length:Int):=by assumption
  show 0≤(k:Int)∧(k:Int)<(l.length:Int);omega
 ·rename_i g u;have g:(k:Int)<(l.length:Int):=g;have u:((l.getD k (dflt Qv)).1 != tm)=true:=u;have u:(l.getD k (dflt Qv)).1≠tm:=by simpa using u
  apply Ex (d0,n0) [] [0,1,2]
  ·repeat' constructor
  ·omega
  ·exact QJ (by omega)
  rw[w (by omega)];unfold QdH;rw[Yf u]
 ·rename_i g u q;have g:(k:Int)<(l.length:Int):=g;have u:((l.getD k (dflt Qv)).1 != tm)=false:=u;have u:(l.getD k (dflt Qv)).1=tm:=by simpa using u
  have q:Qm (l.getD k (dflt Qv)).2.1 QaQ=true:=q;apply Ex (d0,true) [] [0,1,2]
  ·repeat' constructor
  ·omega
  ·exact QJ (by omega)
  rw[w (by omega)];unfold QdH;rw[Yb (fun h=>h u),Yf q]
 ·rename_i g u q;have g:(k:Int)<(l.length:Int):=g;have u:((l.getD k (dflt Qv)).1 != tm)=false:=u;have u:(l.getD k (dflt Qv)).1=tm:=by simpa using u
  have q:Qm (l.getD k (dflt Qv)).2.1 QaQ=false:=q;have w:=w (by omega);unfold QdH at w;rw[Yb (fun h=>h u),Yb (by rw[q];decide)] at w;have Q:l.getD (k:Int).toNat (dflt Qv)=l.getD k (dflt Qv):=rfl;rw[Q];clear Q u q;generalize l.getD k (dflt Qv)=x at *;obtain⟨xa,xc,xn⟩:=x;have D:a.length=d0.length:=by rw[P.2];exact h2
  refine QA H F (A:=List Dv) a.length (fun j d=>St.mk (E1 ((.cell (.ptr 0 0))::E1 ((.cell (.ptr 2 0))::E3 ((.cell (.ptr 3 0))::E2 ((.cell (.ro Qv l))::(I l.length)::(I k)::E20 (E2 ((.cell (.ro Qe a))::(I a.length)::(I j)::E20 (E5 (E3 [])))))))))
   [some (.var [iv .i64 tm,.run .i64 9 r,iv .i64 op,iv .i64 at_,bv n0,.own 1,iv .i64 bd,iv .i64 E,iv .i64 B]),some (.arr Qh d),some (.var [.imm (.string X),.imm (.string M),.ro Qap O,.ro Qp J,.ro Qp K,.ro Qp N,.ro Qe a,.ro Qo W]),some (.var [iv .i64 xa,.imm (.string xc),iv .i64 xn])])
   (fun j d=>d=QdP (Qfa (xa,xc,xn)) a d0 j) d0 (Le.k [] [0,1,2,3] ?_) (QfW _ _ _).symm fun j d Y C=>?_
  ·repeat' constructor
  have y:j≤a.length→d.length=d0.length:=fun h=>by rw[C];exact QbW D h
  have S:j<a.length→d.getD j (dflt Qh)=d0.getD j (dflt Qh):=fun h=>by rw[C];exact QbX D h _
  have hds:j<a.length→d.set j (Qfa (xa,xc,xn) (a.getD j (dflt Qe)) (d0.getD j (dflt Qh)))=QdP (Qfa (xa,xc,xn)) a d0 (j+1):=fun h=>by rw[C];exact Qbp D h _ _
  repeat' first|(apply Ea;conv=>whnf)|apply Eb|apply Ec|apply Ed|apply Ee|(apply Ei;intro _)|apply Ef H F
  all_goals(try dsimp only[Qf] at *)
  ·have q:(j:Int)<(a.length:Int):=by assumption
   show 0≤(j:Int)∧(j:Int)<(a.length:Int);omega
  ·have q:(j:Int)<(a.length:Int):=by assumption
   show 0≤(j:Int)∧(j:Int)<(d.length:Int);have:=y Y;omega
  ·have q:(j:Int)<(a.length:Int):=by assumption
   show j<d.length;have:=y Y;omega
  ·have q:(j:Int)<(a.length:Int):=by assumption
   have e:=S (by omega);refine⟨(h3 _ (QK (dflt Qe) (show j<a.length by omega))).1,?_⟩;show dP (d.getD j (dflt Qh));rw[e];exact(P.1.get j).dP hL
  ·have q:(j:Int)<(a.length:Int):=by assumption
   show 0≤(j:Int)∧(j:Int)<(d.length:Int);have:=y Y;omega
  ·have q:(j:Int)<(a.length:Int):=by assumption
   show j<d.length;have:=y Y;omega
  ·rename_i q G;have q:(j:Int)<(a.length:Int):=q;have G:Qm (a.getD j (dflt Qe)).1 xc=true:=G
   have e:Qfa (xa,xc,xn) (a.getD j (dflt Qe)) (d0.getD j (dflt Qh))=Qmn (a.getD j (dflt Qe)) (d.getD j (dflt Qh)) xn:=by
    unfold Qfa;rw[Yf G,S (by omega)]
   apply Ex _ [] [0,1,2,3]
   ·repeat' constructor
   ·omega
   ·exact QJ (by omega)
   exact(Yv (fun z=>d.set j z) e.symm).trans (hds (by omega))
  ·rename_i q G;have q:(j:Int)<(a.length:Int):=q;have G:Qm (a.getD j (dflt Qe)).1 xc=false:=G
   have e:Qfa (xa,xc,xn) (a.getD j (dflt Qe)) (d0.getD j (dflt Qh))=d0.getD j (dflt Qh):=by
    unfold Qfa;rw[Yb (by rw[G];decide)]
   apply Ex d [] [0,1,2,3]
   ·repeat' constructor
   ·omega
   ·exact QJ (by omega)
   exact C.trans (QkV D (by omega) e)
  ·rename_i q;have q:¬(j:Int)<(a.length:Int):=q;apply Ex (d,n0) [] [0,1,2]
   ·repeat' constructor
   ·omega
   ·exact QJ (by omega)
   rw[w,C,QbF D (by omega)]
 ·rename_i g;have g:¬(k:Int)<(l.length:Int):=g;have e2:(d0,n0)=QM a tm l (ds,f):=by rw[Z,QmA (by omega)]
  exact .mk [] [0,1] _ R R R R R (QEg e2) rfl
theorem QmE{f:Cv→Dv→Int}{cs:List Cv}{ds:List Dv}{k:Nat}(h:cs.length=ds.length)(hk:k<cs.length):List.zipWith f (cs.take k) (ds.take k)++[f (cs.getD k (dflt Qe)) (ds.getD k (dflt Qh))]=List.zipWith f (cs.take (k+1)) (ds.take (k+1)):=by
 rw[Qbd (dflt Qe) hk,Qbd (dflt Qh) (show k<ds.length by omega),List.zipWith_append (by rw[Yq,Yq];omega)];rfl
def QHA(b:Bd)(m:Mach):Prop:=b.2.2.1.length=m.2.2.1.length∧b.2.2.1.length*64≤140737488351232∧(∀c∈b.2.2.1,cP c)∧∀d∈m.2.2.1,dP d
def QHB:PSpec:=⟨[gBd,gM],fun(b,m,_)=>(some (QHA b m),.cell (.own 0),[.arr (.int .i64) (List.zipWith Qat b.2.2.1 m.2.2.1)])⟩
theorem QzS:G0 130 QHB.spec:=by
 have n:S0 _:=Qa QuQ (Qb (T:=tree));have p:=tabs n Qc;refine QHB.gd p n Tryz.func130 fun(b:Bd) (m:Mach) hq=>?_
 obtain⟨j,hl,u,t⟩:QHA b m:=hq _ rfl;clear hq;obtain⟨bn,⟨un,ui,ur,uq,um⟩,a,bw⟩:=b;obtain⟨tm,⟨r,op,at_,q⟩,ds,bd,ba,w⟩:=m;have j:a.length=ds.length:=j;have hl:a.length*64≤140737488351232:=hl;have u:∀c∈a,cP c:=u;have t:∀d∈ds,dP d:=t
 repeat' first|(apply Ea;conv=>whnf)|apply Eb|apply Ec|apply Ed|apply Ee|(apply Ei;intro _)|apply Ef p n
 refine QA p n (A:=List Int) a.length (fun i o=>St.mk (E3 ((.cell (.ptr 0 0))::E1 ((.cell (.own 1))::E3 ((.cell (.ro Qe a))::(I a.length)::(I i)::E10 (E5 (E1 []))))))
  [some (.var [.imm (.int .i64 tm),.run .i64 9 r,.imm (.int .i64 op),.imm (.int .i64 at_),.imm (.bool q),.ro Qh ds,.imm (.int .i64 bd),.imm (.int .i64 ba),.imm (.int .i64 w)]),some (.arr (.int .i64) o)])
  (fun k o=>o=List.zipWith Qat (a.take k) (ds.take k)) [] (.trans (Le.nil 5 (.int .i64) rfl) (Le.k [] [1,2] ?_)) rfl fun k o hk s=>?_
 ·repeat' constructor
 repeat' first|(apply Ea;conv=>whnf)|apply Eb|apply Ec|apply Ed|apply Ee|(apply Ei;intro _)|apply Ef p n
 all_goals(try dsimp only[Qf] at *)
 all_goals clear p n
 ·rename_i g;have g:(k:Int)<(a.length:Int):=g;show 0≤(k:Int)∧(k:Int)<(a.length:Int);omega
 ·rename_i g;have g:(k:Int)<(a.length:Int):=g;show 0≤(k:Int)∧(k:Int)<(ds.length:Int);omega
 ·rename_i g;have g:(k:Int)<(a.length:Int):=g;exact⟨u _ (QK (dflt Qe) (show k<a.length by omega)),t _ (QK (dflt Qh) (show k<ds.length by omega))⟩
 ·rename_i g;have g:(k:Int)<(a.length:Int):=g;have hz:o.length≤a.length:=by rw[s,Ja,Yq];omega
  show(o.length+1)*8≤140737488355328;omega
 ·rename_i g;have g:(k:Int)<(a.length:Int):=g;apply Ex _ [] [0,4]
  ·repeat' constructor
  ·omega
  ·exact QJ (by omega)
  rw[s];exact QmE j (by omega)
 ·rename_i g;have g:¬(k:Int)<(a.length:Int):=g;have e:o=List.zipWith Qat a ds:=by rw[s,Yh (by omega),Yh (by omega)]
  subst e;exact .k [] [1] _ R R
theorem QmY{x y:Inp}:QD Qv x y=true↔x=y:=⟨fun h=>Qdw (u:=Qv) rfl h,fun h=>by subst h;exact Qdl rfl⟩
noncomputable def QB6:PSpec:=⟨[⟨false,.sl Qv⟩,⟨false,.sl Qv⟩],fun(l,m,_)=>(some (List.length l≤4611686018427387904),.cell (bv (eqB (α:=List Inp) l m)),[])⟩
theorem QqL:G0 24 QB6.spec:=by
 have c:S0 _:=(Qb (T:=tree))
 have d:=tabs c Qc;refine QB6.gd d c Tryz.func24 fun(l m:List Inp) hq=>?_
 have hl:l.length≤4611686018427387904:=hq _ rfl;clear hq
 repeat' first|(apply Ea;conv=>whnf)|apply Eb|apply Ec|apply Ed|apply Ee|(apply Ei;intro _)|apply Ef d c
 ·rename_i h;have h:(l.length:Int)≠(m.length:Int):=by simpa using h
  exact .k [] [] _ rfl (Qj (QD5 (fun e=>h (by rw[e]))).symm)
 rename_i h;have h:(l.length:Int)=(m.length:Int):=by simpa using h
 have hm:l.length=m.length:=by omega
 refine QA d c (A:=Unit) l.length (fun i _=>St.mk ((.cell (.ro Qv l))::(.cell (.ro Qv m))::E10 ((I (l.length:Int))::(I i)::E10 (E2 []))) [])
  (fun k _=>l.take k=m.take k) () (Le.mk [] [] R R R ?_) (by simp) fun k _ hk hi=>?_
 ·repeat' constructor
 repeat' first|(apply Ea;conv=>whnf)|apply Eb|apply Ec|apply Ed|apply Ee|(apply Ei;intro _)|apply Ef d c
 all_goals clear d c
 all_goals first
  |(rename_i a
    have a:(k:Int)<(l.length:Int):=a
    first
     |(show 0≤(k:Int)∧(k:Int)<(l.length:Int)
       omega)
     |(show 0≤(k:Int)∧(k:Int)<(m.length:Int)
       omega))
  |(rename_i a b
    have a:(k:Int)<(l.length:Int):=a;have b:(!QD Qv (l.getD k (dflt Qv)) (m.getD k (dflt Qv)))=true:=b
    have f:l.getD k (dflt Qv)≠m.getD k (dflt Qv):=fun e=>by
     rw[QmY.2 e] at b;cases b
    exact .k [] [] _ rfl (Qj (QD5 (QKL (dflt Qv) f)).symm))
  |(rename_i a b
    have a:(k:Int)<(l.length:Int):=a;have b:(!QD Qv (l.getD k (dflt Qv)) (m.getD k (dflt Qv)))=false:=b;have he:l.getD k (dflt Qv)=m.getD k (dflt Qv):=QmY.1 (by simpa using b);apply Ex () [] []
    ·repeat' constructor
    ·omega
    ·exact QJ (by omega)
    exact QD4 (dflt Qv) (by omega) (by omega) hi he)
  |(rename_i a
    have a:¬(k:Int)<(l.length:Int):=a
    exact .k [] [] _ rfl (Qj (Qzr (QD3 hm (by omega) hi)).symm))
end Go.Proofs.YtofgbclopbmlcaaGreat

