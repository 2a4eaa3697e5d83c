/- Part 31 of the proof. Conditions: none. -/
import Derived.Test.YtofgbclopbmlcaaGreatG30
import Derived.Test.YtofgbclopbmlcaaGreatG21
namespace Go.Proofs.YtofgbclopbmlcaaGreat
set_option maxHeartbeats 8000000
open Go.Fw
set_option linter.unusedVariables false
set_option linter.unusedSimpArgs false
set_option linter.constructorNameAsVariable false
set_option maxRecDepth 100000
def QpQ:PSpec:=⟨[gi],fun(k,_)=>(none,.cell (bv (decide (k=0)||(decide (k=1)||decide (k=2)))),[])⟩
theorem QrM:G0 191 QpQ.spec:=by
 have a:S0 _:=(Qb (T:=tree))
 have b:=tabs a Qc;refine QpQ.gd b a Tryz.func191 fun(k:Int) _=>?_
 repeat' first|(apply Ea;conv=>whnf)|apply Eb|apply Ec|apply Ed|apply Ee|(apply Ei;intro _)|apply Ef b a
 all_goals(refine .k [] [] _ rfl (Qj ?_))
 all_goals(simp_all)
 all_goals(by_cases h:k=2<;>simp[h])
def QcE(k:Int):Int:=sel k 0 4 2 3 32 8 4 0
def QBn:PSpec:=⟨[gi],fun(k,_)=>(none,I (QcE k),[])⟩
theorem QyF:G0 192 QBn.spec:=by
 have a:S0 _:=(Qb (T:=tree))
 have b:=tabs a Qc;refine QBn.gd b a Tryz.func192 fun(k:Int) _=>?_
 rcases kinds k with rfl|rfl|rfl|rfl|rfl|rfl|rfl|rfl|rfl|m
 all_goals
  repeat' first|(apply Ea;conv=>whnf)|apply Eb|apply Ec|apply Ed|apply Ee|(apply Ei;intro _)|apply Ef b a
 all_goals first
  |exact .k [] [] _ R R
  |(exfalso;dsimp only[gi,Den] at *;omega)
  |exact .k [] [] _ rfl (Qd (Qai m ..).symm)
  |skip
def QaQ:ByteArray:=⟨#[99,112,117]⟩
def QaL(k s:Int)(n:Nat):Bool:=(decide (k=0∨k=1)&&decide ((n:Int)>s))||((decide (3≤k∧k≤7)&&decide (n>0))||(decide (k=8)&&decide (¬n%256=0)))
def Q0(c:Cv):Int :=
 if QaK (bytesOf c.1)=false then 15 else if Qm c.1 QaQ=true then 20 else if c.2.1<0∨8<c.2.1 then 8
 else if (c.2.1≤2∧c.2.2.2.1<(if c.2.1=2 then 2 else 1))∨(2<c.2.1∧¬c.2.2.2.1=QcE c.2.1) then 1 else if c.2.2.2.1>4096∨List.length c.2.2.2.2>4096 then 2
 else if c.2.2.1<0∨c.2.2.1>IntKind.i64.wrap (65536-c.2.2.2.1) then 19 else if QaL c.2.1 c.2.2.2.1 (List.length c.2.2.2.2)=true then 3 else 0
def QpR:PSpec:=⟨[gC],fun(c,_)=>(some (cP c),I (Q0 c),[])⟩
theorem Qmj:G0 102 QpR.spec:=by
 have a:S0 _:=Qa QfM (Qa QrM (Qa QyF (Qb (T:=tree))));have b:=tabs a Qc;refine QpR.gd b a Tryz.func102 fun(c:Cv) j=>?_
 obtain⟨x,t,u⟩:cP c:=j _ rfl;obtain⟨e,g,f,cs,d⟩:=c;obtain⟨r,q⟩:-9223372036854775808≤cs∧cs≤9223372036854775807:=t;clear j x u;have w:QaQ=⟨#[99,112,117]⟩:=rfl;have p:Int.tmod (d.length:Int) 256=((d.length%256:Nat):Int):=by rw[Yi (by omega)];omega
 rcases kinds g with rfl|rfl|rfl|rfl|rfl|rfl|rfl|rfl|rfl|m
 rotate_right
 ·have y:¬(¬g<0∧¬g≥9):=by omega
  repeat' first|(exfalso;exact y ⟨by assumption,by assumption⟩)|(apply Ea;conv=>whnf)|apply Eb|apply Ec|apply Ed|apply Ee|(apply Ei;intro _)|apply Ef b a
  all_goals(try dsimp only[Qf] at *)
  all_goals clear b a
  all_goals(refine .k [] [] _ rfl (Qd ?_))
  all_goals(show _=Q0 (e,g,f,cs,d))
  all_goals(unfold Q0)
  all_goals(dsimp only)
  all_goals(simp_all)
  all_goals(intros;omega)
 ·repeat' first|(apply Ea;conv=>whnf)|apply Eb|apply Ec|apply Ed|apply Ee|(apply Ei;intro _)|apply Ef b a
  all_goals(try dsimp only[Qf] at *)
  all_goals first
   |exact Ya rfl
   |skip
  all_goals clear b a
  all_goals(refine .k [] [] _ rfl (Qd ?_))
  all_goals(show _=Q0 (e,0,f,cs,d))
  all_goals(simp_all [Q0,QaL,QcE,sel])
  all_goals(intros;(repeat' split)<;>omega)
 ·repeat' first|(apply Ea;conv=>whnf)|apply Eb|apply Ec|apply Ed|apply Ee|(apply Ei;intro _)|apply Ef b a
  all_goals(try dsimp only[Qf] at *)
  all_goals first
   |exact Ya rfl
   |skip
  all_goals clear b a
  all_goals(refine .k [] [] _ rfl (Qd ?_))
  all_goals(show _=Q0 (e,1,f,cs,d))
  all_goals(simp_all [Q0,QaL,QcE,sel])
  all_goals(intros;(repeat' split)<;>omega)
 ·repeat' first|(apply Ea;conv=>whnf)|apply Eb|apply Ec|apply Ed|apply Ee|(apply Ei;intro _)|apply Ef b a
  all_goals(try dsimp only[Qf] at *)
  all_goals first
   |exact Ya rfl
   |skip
  all_goals clear b a
  all_goals(refine .k [] [] _ rfl (Qd ?_))
  all_goals(show _=Q0 (e,2,f,cs,d))
  all_goals(simp_all [Q0,QaL,QcE,sel])
  all_goals(intros;(repeat' split)<;>omega)
 ·repeat' first|(apply Ea;conv=>whnf)|apply Eb|apply Ec|apply Ed|apply Ee|(apply Ei;intro _)|apply Ef b a
  all_goals(try dsimp only[Qf] at *)
  all_goals first
   |exact Ya rfl
   |skip
  all_goals clear b a
  all_goals(refine .k [] [] _ rfl (Qd ?_))
  all_goals(show _=Q0 (e,3,f,cs,d))
  all_goals(simp_all [Q0,QaL,QcE,sel])
  all_goals(intros;(repeat' split)<;>omega)
 ·repeat' first|(apply Ea;conv=>whnf)|apply Eb|apply Ec|apply Ed|apply Ee|(apply Ei;intro _)|apply Ef b a
  all_goals(try dsimp only[Qf] at *)
  all_goals first
   |exact Ya rfl
   |skip
  all_goals clear b a
  all_goals(refine .k [] [] _ rfl (Qd ?_))
  all_goals(show _=Q0 (e,4,f,cs,d))
  all_goals(simp_all [Q0,QaL,QcE,sel])
  all_goals(intros;(repeat' split)<;>omega)
 ·repeat' first|(apply Ea;conv=>whnf)|apply Eb|apply Ec|apply Ed|apply Ee|(apply Ei;intro _)|apply Ef b a
  all_goals(try dsimp only[Qf] at *)
  all_goals first
   |exact Ya rfl
   |skip
  all_goals clear b a
  all_goals(refine .k [] [] _ rfl (Qd ?_))
  all_goals(show _=Q0 (e,5,f,cs,d))
  all_goals(simp_all [Q0,QaL,QcE,sel])
  all_goals(intros;(repeat' split)<;>omega)
 ·repeat' first|(apply Ea;conv=>whnf)|apply Eb|apply Ec|apply Ed|apply Ee|(apply Ei;intro _)|apply Ef b a
  all_goals(try dsimp only[Qf] at *)
  all_goals first
   |exact Ya rfl
   |skip
  all_goals clear b a
  all_goals(refine .k [] [] _ rfl (Qd ?_))
  all_goals(show _=Q0 (e,6,f,cs,d))
  all_goals(simp_all [Q0,QaL,QcE,sel])
  all_goals(intros;(repeat' split)<;>omega)
 ·repeat' first|(apply Ea;conv=>whnf)|apply Eb|apply Ec|apply Ed|apply Ee|(apply Ei;intro _)|apply Ef b a
  all_goals(try dsimp only[Qf] at *)
  all_goals first
   |exact Ya rfl
   |skip
  all_goals clear b a
  all_goals(refine .k [] [] _ rfl (Qd ?_))
  all_goals(show _=Q0 (e,7,f,cs,d))
  all_goals(simp_all [Q0,QaL,QcE,sel])
  all_goals(intros;(repeat' split)<;>omega)
 ·repeat' first|(apply Ea;conv=>whnf)|apply Eb|apply Ec|apply Ed|apply Ee|(apply Ei;intro _)|apply Ef b a
  all_goals(try dsimp only[Qf] at *)
  all_goals first
   |exact Ya rfl
   |skip
  all_goals clear b a
  all_goals(refine .k [] [] _ rfl (Qd ?_))
  all_goals(show _=Q0 (e,8,f,cs,d))
  all_goals(simp_all [Q0,QaL,QcE,sel])
  all_goals(intros;(repeat' split)<;>omega)
theorem QnI:G0 63 QpR.spec:=by
 have a:S0 _:=Qa Qik (Qb (T:=tree));have b:=tabs a Qc;refine QpR.gd b a Tryz.func63 fun(c:Cv) j=>?_
 obtain⟨x,t,u⟩:cP c:=j _ rfl;obtain⟨e,g,f,cs,d⟩:=c;obtain⟨r,q⟩:-9223372036854775808≤cs∧cs≤9223372036854775807:=t;clear j x u;have w:QaQ=⟨#[99,112,117]⟩:=rfl;have p:Int.tmod (d.length:Int) 256=((d.length%256:Nat):Int):=by rw[Yi (by omega)];omega
 rcases kinds g with rfl|rfl|rfl|rfl|rfl|rfl|rfl|rfl|rfl|m
 rotate_right
 ·have y:¬(¬g<0∧¬g>8):=by omega
  repeat' first|(exfalso;exact y ⟨by assumption,by assumption⟩)|(apply Ea;conv=>whnf)|apply Eb|apply Ec|apply Ed|apply Ee|(apply Ei;intro _)|apply Ef b a
  all_goals(try dsimp only[Qf] at *)
  all_goals clear b a
  all_goals(refine .k [] [] _ rfl (Qd ?_))
  all_goals(show _=Q0 (e,g,f,cs,d))
  all_goals(unfold Q0)
  all_goals(dsimp only)
  all_goals(simp_all)
  all_goals(intros;omega)
 ·repeat' first|(apply Ea;conv=>whnf)|apply Eb|apply Ec|apply Ed|apply Ee|(apply Ei;intro _)|apply Ef b a
  all_goals(try dsimp only[Qf] at *)
  all_goals first
   |exact Ya rfl
   |skip
  all_goals clear b a
  all_goals(refine .k [] [] _ rfl (Qd ?_))
  all_goals(show _=Q0 (e,0,f,cs,d))
  all_goals(simp_all [Q0,QaL,QcE,sel,Q8])
  all_goals(intros;(repeat' split)<;>first|omega|(have i:=List.length_pos_iff.2 (by assumption:d≠[]);omega))
 ·repeat' first|(apply Ea;conv=>whnf)|apply Eb|apply Ec|apply Ed|apply Ee|(apply Ei;intro _)|apply Ef b a
  all_goals(try dsimp only[Qf] at *)
  all_goals first
   |exact Ya rfl
   |skip
  all_goals clear b a
  all_goals(refine .k [] [] _ rfl (Qd ?_))
  all_goals(show _=Q0 (e,1,f,cs,d))
  all_goals(simp_all [Q0,QaL,QcE,sel,Q8])
  all_goals(intros;(repeat' split)<;>first|omega|(have i:=List.length_pos_iff.2 (by assumption:d≠[]);omega))
 ·repeat' first|(apply Ea;conv=>whnf)|apply Eb|apply Ec|apply Ed|apply Ee|(apply Ei;intro _)|apply Ef b a
  all_goals(try dsimp only[Qf] at *)
  all_goals first
   |exact Ya rfl
   |skip
  all_goals clear b a
  all_goals(refine .k [] [] _ rfl (Qd ?_))
  all_goals(show _=Q0 (e,2,f,cs,d))
  all_goals(simp_all [Q0,QaL,QcE,sel,Q8])
  all_goals(intros;(repeat' split)<;>first|omega|(have i:=List.length_pos_iff.2 (by assumption:d≠[]);omega))
 ·repeat' first|(apply Ea;conv=>whnf)|apply Eb|apply Ec|apply Ed|apply Ee|(apply Ei;intro _)|apply Ef b a
  all_goals(try dsimp only[Qf] at *)
  all_goals first
   |exact Ya rfl
   |skip
  all_goals clear b a
  all_goals(refine .k [] [] _ rfl (Qd ?_))
  all_goals(show _=Q0 (e,3,f,cs,d))
  all_goals(simp_all [Q0,QaL,QcE,sel,Q8])
  all_goals(intros;(repeat' split)<;>first|omega|(have i:=List.length_pos_iff.2 (by assumption:d≠[]);omega))
 ·repeat' first|(apply Ea;conv=>whnf)|apply Eb|apply Ec|apply Ed|apply Ee|(apply Ei;intro _)|apply Ef b a
  all_goals(try dsimp only[Qf] at *)
  all_goals first
   |exact Ya rfl
   |skip
  all_goals clear b a
  all_goals(refine .k [] [] _ rfl (Qd ?_))
  all_goals(show _=Q0 (e,4,f,cs,d))
  all_goals(simp_all [Q0,QaL,QcE,sel,Q8])
  all_goals(intros;(repeat' split)<;>first|omega|(have i:=List.length_pos_iff.2 (by assumption:d≠[]);omega))
 ·repeat' first|(apply Ea;conv=>whnf)|apply Eb|apply Ec|apply Ed|apply Ee|(apply Ei;intro _)|apply Ef b a
  all_goals(try dsimp only[Qf] at *)
  all_goals first
   |exact Ya rfl
   |skip
  all_goals clear b a
  all_goals(refine .k [] [] _ rfl (Qd ?_))
  all_goals(show _=Q0 (e,5,f,cs,d))
  all_goals(simp_all [Q0,QaL,QcE,sel,Q8])
  all_goals(intros;(repeat' split)<;>first|omega|(have i:=List.length_pos_iff.2 (by assumption:d≠[]);omega))
 ·repeat' first|(apply Ea;conv=>whnf)|apply Eb|apply Ec|apply Ed|apply Ee|(apply Ei;intro _)|apply Ef b a
  all_goals(try dsimp only[Qf] at *)
  all_goals first
   |exact Ya rfl
   |skip
  all_goals clear b a
  all_goals(refine .k [] [] _ rfl (Qd ?_))
  all_goals(show _=Q0 (e,6,f,cs,d))
  all_goals(simp_all [Q0,QaL,QcE,sel,Q8])
  all_goals(intros;(repeat' split)<;>first|omega|(have i:=List.length_pos_iff.2 (by assumption:d≠[]);omega))
 ·repeat' first|(apply Ea;conv=>whnf)|apply Eb|apply Ec|apply Ed|apply Ee|(apply Ei;intro _)|apply Ef b a
  all_goals(try dsimp only[Qf] at *)
  all_goals first
   |exact Ya rfl
   |skip
  all_goals clear b a
  all_goals(refine .k [] [] _ rfl (Qd ?_))
  all_goals(show _=Q0 (e,7,f,cs,d))
  all_goals(simp_all [Q0,QaL,QcE,sel,Q8])
  all_goals(intros;(repeat' split)<;>first|omega|(have i:=List.length_pos_iff.2 (by assumption:d≠[]);omega))
 ·repeat' first|(apply Ea;conv=>whnf)|apply Eb|apply Ec|apply Ed|apply Ee|(apply Ei;intro _)|apply Ef b a
  all_goals(try dsimp only[Qf] at *)
  all_goals first
   |exact Ya rfl
   |skip
  all_goals clear b a
  all_goals(refine .k [] [] _ rfl (Qd ?_))
  all_goals(show _=Q0 (e,8,f,cs,d))
  all_goals(simp_all [Q0,QaL,QcE,sel,Q8])
  all_goals(intros;(repeat' split)<;>first|omega|(have i:=List.length_pos_iff.2 (by assumption:d≠[]);omega))
end Go.Proofs.YtofgbclopbmlcaaGreat

