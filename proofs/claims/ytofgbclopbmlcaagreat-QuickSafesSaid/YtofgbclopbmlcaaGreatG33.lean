/- Part 33 of the proof. Conditions: none. -/
import Derived.Test.YtofgbclopbmlcaaGreatG32
import Derived.Test.YtofgbclopbmlcaaGreatG23
namespace Go.Proofs.YtofgbclopbmlcaaGreat
open Go.IntKind (i64)
set_option maxHeartbeats 8000000
open Go.Fw
set_option linter.unusedVariables false
set_option linter.unusedSimpArgs false
set_option linter.constructorNameAsVariable false
set_option maxRecDepth 100000
def QpD:PSpec:=⟨[gi],fun(k,_)=>(none,.cell (bv (decide (k=0)||(decide (k=1)||decide (k=2)))),[])⟩
theorem Qro:G0 191 QpD.spec:=by
 have hP:S0 _:=(Qb (T:=tree))
 have hT:=tabs hP Qc;refine QpD.gd hT hP Tryz.func191 fun(k:Int) _=>?_
 repeat' first|(apply Ea;conv=>whnf)|apply Eb|apply Ec<;>intro _|apply Ed<;>intro _|apply Ee<;>intro _|apply Ef hT hP
 all_goals(refine .k [] [] _ rfl (Qi ?_))
 all_goals(simp_all)
 all_goals(by_cases h:k=2<;>simp[h])
def QcA(k:Int):Int:=sel k 0 4 2 3 32 8 4 0
def QAB:PSpec:=⟨[gi],fun(k,_)=>(none,I (QcA k),[])⟩
theorem Qyg:G0 192 QAB.spec:=by
 have hP:S0 _:=(Qb (T:=tree))
 have hT:=tabs hP Qc;refine QAB.gd hT hP Tryz.func192 fun(k:Int) _=>?_
 rcases kinds k with rfl|rfl|rfl|rfl|rfl|rfl|rfl|rfl|rfl|hx
 all_goals
  repeat' first|(apply Ea;conv=>whnf)|apply Eb|apply Ec<;>intro _|apply Ed<;>intro _|apply Ee<;>intro _|apply Ef hT hP
 all_goals first
  |exact .k [] [] _ R R
  |(exfalso;dsimp only[gi,Den] at *;omega)
  |exact .k [] [] _ rfl (Qd (Qaa hx ..).symm)
  |skip
def QaP:ByteArray:=⟨#[99,112,117]⟩
def QaG(k s:Int)(n:Nat):Bool:=(decide (k=0∨k=1)&&decide ((n:Int)>s))||((decide (3≤k∧k≤7)&&decide (n>0))||(decide (k=8)&&decide (¬n%256=0)))
def QV(c:Cv):Int :=
 if QaF (bytesOf c.1)=false then 15 else if Qm c.1 QaP=true then 20 else if c.2.1<0∨8<c.2.1 then 8
 else if (c.2.1≤2∧c.2.2.2.1<(if c.2.1=2 then 2 else 1))∨(2<c.2.1∧¬c.2.2.2.1=QcA c.2.1) then 1 else if c.2.2.2.1>4096∨List.length c.2.2.2.2>4096 then 2
 else if c.2.2.1<0∨c.2.2.1>i64.wrap (65536-c.2.2.2.1) then 19 else if QaG c.2.1 c.2.2.2.1 (List.length c.2.2.2.2)=true then 3 else 0
def QpE:PSpec:=⟨[gC],fun(c,_)=>(some (cP c),I (QV c),[])⟩
theorem Ql8:G0 102 QpE.spec:=by
 have hP:S0 _:=Qa QfI (Qa Qro (Qa Qyg (Qb (T:=tree))));have hT:=tabs hP Qc;refine QpE.gd hT hP Tryz.func102 fun(c:Cv) hp=>?_
 obtain⟨hb,hs,hl⟩:cP c:=hp _ rfl;obtain⟨cn,ck,cb,cs,cd⟩:=c;obtain⟨hs1,hs2⟩:-9223372036854775808≤cs∧cs≤9223372036854775807:=hs;clear hp hb hl;have hcn:QaP=⟨#[99,112,117]⟩:=rfl;have htm:Int.tmod (cd.length:Int) 256=((cd.length%256:Nat):Int):=by rw[Int.tmod_eq_emod_of_nonneg (by omega)];omega
 rcases kinds ck with rfl|rfl|rfl|rfl|rfl|rfl|rfl|rfl|rfl|hx
 rotate_right
 ·have h8:¬(¬ck<0∧¬ck≥9):=by omega
  repeat' first|(exfalso;exact h8 ⟨by assumption,by assumption⟩)|(apply Ea;conv=>whnf)|apply Eb|apply Ec<;>intro _|apply Ed<;>intro _|apply Ee<;>intro _|apply Ef hT hP
  all_goals(try dsimp only[Qf] at *)
  all_goals clear hT hP
  all_goals(refine .k [] [] _ rfl (Qd ?_))
  all_goals(show _=QV (cn,ck,cb,cs,cd))
  all_goals(unfold QV)
  all_goals(dsimp only)
  all_goals(simp_all)
  all_goals(intros;omega)
 ·repeat' first|(apply Ea;conv=>whnf)|apply Eb|apply Ec<;>intro _|apply Ed<;>intro _|apply Ee<;>intro _|apply Ef hT hP
  all_goals(try dsimp only[Qf] at *)
  all_goals first
   |exact of_decide_eq_true rfl
   |skip
  all_goals clear hT hP
  all_goals(refine .k [] [] _ rfl (Qd ?_))
  all_goals(show _=QV (cn,0,cb,cs,cd))
  all_goals(simp_all [QV,QaG,QcA,sel])
  all_goals(intros;(repeat' split)<;>omega)
 ·repeat' first|(apply Ea;conv=>whnf)|apply Eb|apply Ec<;>intro _|apply Ed<;>intro _|apply Ee<;>intro _|apply Ef hT hP
  all_goals(try dsimp only[Qf] at *)
  all_goals first
   |exact of_decide_eq_true rfl
   |skip
  all_goals clear hT hP
  all_goals(refine .k [] [] _ rfl (Qd ?_))
  all_goals(show _=QV (cn,1,cb,cs,cd))
  all_goals(simp_all [QV,QaG,QcA,sel])
  all_goals(intros;(repeat' split)<;>omega)
 ·repeat' first|(apply Ea;conv=>whnf)|apply Eb|apply Ec<;>intro _|apply Ed<;>intro _|apply Ee<;>intro _|apply Ef hT hP
  all_goals(try dsimp only[Qf] at *)
  all_goals first
   |exact of_decide_eq_true rfl
   |skip
  all_goals clear hT hP
  all_goals(refine .k [] [] _ rfl (Qd ?_))
  all_goals(show _=QV (cn,2,cb,cs,cd))
  all_goals(simp_all [QV,QaG,QcA,sel])
  all_goals(intros;(repeat' split)<;>omega)
 ·repeat' first|(apply Ea;conv=>whnf)|apply Eb|apply Ec<;>intro _|apply Ed<;>intro _|apply Ee<;>intro _|apply Ef hT hP
  all_goals(try dsimp only[Qf] at *)
  all_goals first
   |exact of_decide_eq_true rfl
   |skip
  all_goals clear hT hP
  all_goals(refine .k [] [] _ rfl (Qd ?_))
  all_goals(show _=QV (cn,3,cb,cs,cd))
  all_goals(simp_all [QV,QaG,QcA,sel])
  all_goals(intros;(repeat' split)<;>omega)
 ·repeat' first|(apply Ea;conv=>whnf)|apply Eb|apply Ec<;>intro _|apply Ed<;>intro _|apply Ee<;>intro _|apply Ef hT hP
  all_goals(try dsimp only[Qf] at *)
  all_goals first
   |exact of_decide_eq_true rfl
   |skip
  all_goals clear hT hP
  all_goals(refine .k [] [] _ rfl (Qd ?_))
  all_goals(show _=QV (cn,4,cb,cs,cd))
  all_goals(simp_all [QV,QaG,QcA,sel])
  all_goals(intros;(repeat' split)<;>omega)
 ·repeat' first|(apply Ea;conv=>whnf)|apply Eb|apply Ec<;>intro _|apply Ed<;>intro _|apply Ee<;>intro _|apply Ef hT hP
  all_goals(try dsimp only[Qf] at *)
  all_goals first
   |exact of_decide_eq_true rfl
   |skip
  all_goals clear hT hP
  all_goals(refine .k [] [] _ rfl (Qd ?_))
  all_goals(show _=QV (cn,5,cb,cs,cd))
  all_goals(simp_all [QV,QaG,QcA,sel])
  all_goals(intros;(repeat' split)<;>omega)
 ·repeat' first|(apply Ea;conv=>whnf)|apply Eb|apply Ec<;>intro _|apply Ed<;>intro _|apply Ee<;>intro _|apply Ef hT hP
  all_goals(try dsimp only[Qf] at *)
  all_goals first
   |exact of_decide_eq_true rfl
   |skip
  all_goals clear hT hP
  all_goals(refine .k [] [] _ rfl (Qd ?_))
  all_goals(show _=QV (cn,6,cb,cs,cd))
  all_goals(simp_all [QV,QaG,QcA,sel])
  all_goals(intros;(repeat' split)<;>omega)
 ·repeat' first|(apply Ea;conv=>whnf)|apply Eb|apply Ec<;>intro _|apply Ed<;>intro _|apply Ee<;>intro _|apply Ef hT hP
  all_goals(try dsimp only[Qf] at *)
  all_goals first
   |exact of_decide_eq_true rfl
   |skip
  all_goals clear hT hP
  all_goals(refine .k [] [] _ rfl (Qd ?_))
  all_goals(show _=QV (cn,7,cb,cs,cd))
  all_goals(simp_all [QV,QaG,QcA,sel])
  all_goals(intros;(repeat' split)<;>omega)
 ·repeat' first|(apply Ea;conv=>whnf)|apply Eb|apply Ec<;>intro _|apply Ed<;>intro _|apply Ee<;>intro _|apply Ef hT hP
  all_goals(try dsimp only[Qf] at *)
  all_goals first
   |exact of_decide_eq_true rfl
   |skip
  all_goals clear hT hP
  all_goals(refine .k [] [] _ rfl (Qd ?_))
  all_goals(show _=QV (cn,8,cb,cs,cd))
  all_goals(simp_all [QV,QaG,QcA,sel])
  all_goals(intros;(repeat' split)<;>omega)
theorem Qnv:G0 63 QpE.spec:=by
 have hP:S0 _:=Qa Qh5 (Qb (T:=tree));have hT:=tabs hP Qc;refine QpE.gd hT hP Tryz.func63 fun(c:Cv) hp=>?_
 obtain⟨hb,hs,hl⟩:cP c:=hp _ rfl;obtain⟨cn,ck,cb,cs,cd⟩:=c;obtain⟨hs1,hs2⟩:-9223372036854775808≤cs∧cs≤9223372036854775807:=hs;clear hp hb hl;have hcn:QaP=⟨#[99,112,117]⟩:=rfl;have htm:Int.tmod (cd.length:Int) 256=((cd.length%256:Nat):Int):=by rw[Int.tmod_eq_emod_of_nonneg (by omega)];omega
 rcases kinds ck with rfl|rfl|rfl|rfl|rfl|rfl|rfl|rfl|rfl|hx
 rotate_right
 ·have h8:¬(¬ck<0∧¬ck>8):=by omega
  repeat' first|(exfalso;exact h8 ⟨by assumption,by assumption⟩)|(apply Ea;conv=>whnf)|apply Eb|apply Ec<;>intro _|apply Ed<;>intro _|apply Ee<;>intro _|apply Ef hT hP
  all_goals(try dsimp only[Qf] at *)
  all_goals clear hT hP
  all_goals(refine .k [] [] _ rfl (Qd ?_))
  all_goals(show _=QV (cn,ck,cb,cs,cd))
  all_goals(unfold QV)
  all_goals(dsimp only)
  all_goals(simp_all)
  all_goals(intros;omega)
 ·repeat' first|(apply Ea;conv=>whnf)|apply Eb|apply Ec<;>intro _|apply Ed<;>intro _|apply Ee<;>intro _|apply Ef hT hP
  all_goals(try dsimp only[Qf] at *)
  all_goals first
   |exact of_decide_eq_true rfl
   |skip
  all_goals clear hT hP
  all_goals(refine .k [] [] _ rfl (Qd ?_))
  all_goals(show _=QV (cn,0,cb,cs,cd))
  all_goals(simp_all [QV,QaG,QcA,sel,QT])
  all_goals(intros;(repeat' split)<;>first|omega|(have hz:=List.length_pos_iff.2 (by assumption:cd≠[]);omega))
 ·repeat' first|(apply Ea;conv=>whnf)|apply Eb|apply Ec<;>intro _|apply Ed<;>intro _|apply Ee<;>intro _|apply Ef hT hP
  all_goals(try dsimp only[Qf] at *)
  all_goals first
   |exact of_decide_eq_true rfl
   |skip
  all_goals clear hT hP
  all_goals(refine .k [] [] _ rfl (Qd ?_))
  all_goals(show _=QV (cn,1,cb,cs,cd))
  all_goals(simp_all [QV,QaG,QcA,sel,QT])
  all_goals(intros;(repeat' split)<;>first|omega|(have hz:=List.length_pos_iff.2 (by assumption:cd≠[]);omega))
 ·repeat' first|(apply Ea;conv=>whnf)|apply Eb|apply Ec<;>intro _|apply Ed<;>intro _|apply Ee<;>intro _|apply Ef hT hP
  all_goals(try dsimp only[Qf] at *)
  all_goals first
   |exact of_decide_eq_true rfl
   |skip
  all_goals clear hT hP
  all_goals(refine .k [] [] _ rfl (Qd ?_))
  all_goals(show _=QV (cn,2,cb,cs,cd))
  all_goals(simp_all [QV,QaG,QcA,sel,QT])
  all_goals(intros;(repeat' split)<;>first|omega|(have hz:=List.length_pos_iff.2 (by assumption:cd≠[]);omega))
 ·repeat' first|(apply Ea;conv=>whnf)|apply Eb|apply Ec<;>intro _|apply Ed<;>intro _|apply Ee<;>intro _|apply Ef hT hP
  all_goals(try dsimp only[Qf] at *)
  all_goals first
   |exact of_decide_eq_true rfl
   |skip
  all_goals clear hT hP
  all_goals(refine .k [] [] _ rfl (Qd ?_))
  all_goals(show _=QV (cn,3,cb,cs,cd))
  all_goals(simp_all [QV,QaG,QcA,sel,QT])
  all_goals(intros;(repeat' split)<;>first|omega|(have hz:=List.length_pos_iff.2 (by assumption:cd≠[]);omega))
 ·repeat' first|(apply Ea;conv=>whnf)|apply Eb|apply Ec<;>intro _|apply Ed<;>intro _|apply Ee<;>intro _|apply Ef hT hP
  all_goals(try dsimp only[Qf] at *)
  all_goals first
   |exact of_decide_eq_true rfl
   |skip
  all_goals clear hT hP
  all_goals(refine .k [] [] _ rfl (Qd ?_))
  all_goals(show _=QV (cn,4,cb,cs,cd))
  all_goals(simp_all [QV,QaG,QcA,sel,QT])
  all_goals(intros;(repeat' split)<;>first|omega|(have hz:=List.length_pos_iff.2 (by assumption:cd≠[]);omega))
 ·repeat' first|(apply Ea;conv=>whnf)|apply Eb|apply Ec<;>intro _|apply Ed<;>intro _|apply Ee<;>intro _|apply Ef hT hP
  all_goals(try dsimp only[Qf] at *)
  all_goals first
   |exact of_decide_eq_true rfl
   |skip
  all_goals clear hT hP
  all_goals(refine .k [] [] _ rfl (Qd ?_))
  all_goals(show _=QV (cn,5,cb,cs,cd))
  all_goals(simp_all [QV,QaG,QcA,sel,QT])
  all_goals(intros;(repeat' split)<;>first|omega|(have hz:=List.length_pos_iff.2 (by assumption:cd≠[]);omega))
 ·repeat' first|(apply Ea;conv=>whnf)|apply Eb|apply Ec<;>intro _|apply Ed<;>intro _|apply Ee<;>intro _|apply Ef hT hP
  all_goals(try dsimp only[Qf] at *)
  all_goals first
   |exact of_decide_eq_true rfl
   |skip
  all_goals clear hT hP
  all_goals(refine .k [] [] _ rfl (Qd ?_))
  all_goals(show _=QV (cn,6,cb,cs,cd))
  all_goals(simp_all [QV,QaG,QcA,sel,QT])
  all_goals(intros;(repeat' split)<;>first|omega|(have hz:=List.length_pos_iff.2 (by assumption:cd≠[]);omega))
 ·repeat' first|(apply Ea;conv=>whnf)|apply Eb|apply Ec<;>intro _|apply Ed<;>intro _|apply Ee<;>intro _|apply Ef hT hP
  all_goals(try dsimp only[Qf] at *)
  all_goals first
   |exact of_decide_eq_true rfl
   |skip
  all_goals clear hT hP
  all_goals(refine .k [] [] _ rfl (Qd ?_))
  all_goals(show _=QV (cn,7,cb,cs,cd))
  all_goals(simp_all [QV,QaG,QcA,sel,QT])
  all_goals(intros;(repeat' split)<;>first|omega|(have hz:=List.length_pos_iff.2 (by assumption:cd≠[]);omega))
 ·repeat' first|(apply Ea;conv=>whnf)|apply Eb|apply Ec<;>intro _|apply Ed<;>intro _|apply Ee<;>intro _|apply Ef hT hP
  all_goals(try dsimp only[Qf] at *)
  all_goals first
   |exact of_decide_eq_true rfl
   |skip
  all_goals clear hT hP
  all_goals(refine .k [] [] _ rfl (Qd ?_))
  all_goals(show _=QV (cn,8,cb,cs,cd))
  all_goals(simp_all [QV,QaG,QcA,sel,QT])
  all_goals(intros;(repeat' split)<;>first|omega|(have hz:=List.length_pos_iff.2 (by assumption:cd≠[]);omega))
def Qd5(c:Cv):Dv:=sel c.2.1 (memN c [],QaT c c.2.2.2.2) ([0,0,0,0],[]) ([255,0,0],[]) ([0,0,0,0,0,0,0,0],[]) ([2559,0],List.replicate 32 0) (List.replicate 12 0,[]) ([0,0,0,0,0,0,0,0,0,0],dM c.2.2.2.2) ([],[])
theorem Qcs{x y:Dv}(h:x=y):[some (Blk.arr (.int .i64) x.1),some (Blk.arr (.int .u8) x.2)]=[some (Blk.arr (.int .i64) y.1),some (Blk.arr (.int .u8) y.2)]:=by rw[h]
def QFf:PSpec:=⟨[gC],fun(c,_)=>(some (cP c),Qdv,[.arr (.int .i64) (Qd5 c).1,.arr (.int .u8) (Qd5 c).2])⟩
theorem Qut(c:Cv)(h:c.2.1=2):memN c []=[0]:=by unfold memN;rw[if_pos h];show[0%Qao c]=[0];rw[Int.zero_emod]
theorem QCC:G0 60 QFf.spec:=by
 have hP:S0 _:=Qa QlS (Qa QxR (Qa QxT (Qa QxV (Qa QB3 (Qa QxX (Qa QBO (Qb (T:=tree))))))));have hT:=tabs hP Qc;refine QFf.gd hT hP Tryz.func60 fun(c:Cv) hp=>?_
 have hc:cP c:=hp _ rfl;clear hp;obtain⟨h6,h7⟩:=QlR hc.2.2;obtain⟨cn,ck,cb,cs,cd⟩:=c;have hl:cd.length≤140737488355328:=Nat.le_trans hc.2.2 (by decide);rcases kinds ck with rfl|rfl|rfl|rfl|rfl|rfl|rfl|rfl|rfl|hx
 all_goals
  repeat' first|(apply Ea;conv=>whnf)|apply Eb|apply Ec<;>intro _|apply Ed<;>intro _|apply Ee<;>intro _|apply Ef hT hP
  all_goals(try dsimp only[Qf] at *)
 all_goals first
  |exact hc.2.2
  |exact hl
  |(exfalso;omega)
  |exact⟨rfl,h6,by omega,by omega⟩
  |skip
 ·exact .le (Le.nilH 1 (.int .i64) _ _ R R R) (.mk [] [4,2] _ R R R R R (Qcs (x:=([],QaT (cn,0,cb,cs,cd) cd)) (y:=Qd5 (cn,0,cb,cs,cd)) rfl) rfl)
 ·exact .le (Le.nilH 1 (.int .i64) _ _ R R R) (.mk [] [4,2] _ R R R R R (Qcs (x:=([],QaT (cn,1,cb,cs,cd) cd)) (y:=Qd5 (cn,1,cb,cs,cd)) rfl) rfl)
 ·refine .mk [] [4,2] _ R R R R R (Qcs (x:=([0],QaT (cn,2,cb,cs,cd) cd)) (y:=Qd5 (cn,2,cb,cs,cd)) ?_) rfl;show _=(memN (cn,2,cb,cs,cd) [],QaT (cn,2,cb,cs,cd) cd)
  rw[Qut _ rfl]
 ·exact .k [] [2,3] _ R R
 ·exact .k [] [2,3] _ R R
 ·exact .k [] [2,3] _ R R
 ·exact .k [] [2,3] _ R R
 ·exact .k [] [2,3] _ R R
 ·exact .k [] [2,3] _ R R
 ·refine .le (Le.nilH 1 (.int .i64) _ _ R R R) (.le (Le.nilH 1 (.int .u8) _ _ R R R) (.mk [] [2,3] _ R R R R R (Qcs (x:=([],[])) (y:=Qd5 (cn,ck,cb,cs,cd)) ?_) rfl));unfold Qd5;rw[Qaa hx]
theorem Qrp{k n:Int}(h:k<0∨8<k)(g:k=n)(hn:0≤n∧n≤8):False:=by omega
theorem QAC{c:Cv}{d:Dv}{a:Int}(hk:c.2.1=0∨c.2.1=1)(hu:u8s d.2)(h0:a≥0)(h1:a<((QaT c d.2).length:Nat)):i64.wrap ((QaT c d.2).getD a.toNat 0)=Qb2 c d a:=by
 have e:QB c (QcR c d) a=a:=by
  unfold QB;rw[if_neg (by omega),if_neg];show¬(a<0∨a≥((QaT c d.2).length:Nat));omega
 rw[QCy (Qh2 _ hu),Qb2,e,if_pos h0]
theorem QpF{c:Cv}{d:Dv}{a:Int}(hk:c.2.1=0∨c.2.1=1)(h:¬a≥0∨¬a<((QaT c d.2).length:Nat)):0=Qb2 c d a:=by
 have e:QB c (QcR c d) a=-1:=by
  unfold QB;rw[if_neg (by omega),if_pos];show a<0∨a≥((QaT c d.2).length:Nat);omega
 rw[Qb2,e,if_neg (by decide),if_neg (by omega)]
theorem Qyh{c:Cv}{d:Dv}{a:Int}(hk:c.2.1=2)(h:a<1∨a>Qba c):QB c (QcR c d) a=-1:=by
 unfold QB;rw[if_pos hk,if_pos h]
theorem QIX{c:Cv}{d:Dv}{a:Int}(hk:c.2.1=2)(hc:cP c)(g1:a>0)(g2:a≤Qba c):i64.wrap (i64.wrap (i64.wrap ((memN c d.1).getD 0 0*Qba c)+a)-1)=QB c (QcR c d) a∧QB c (QcR c d) a≥0:=by
 obtain⟨b1,b2,b3⟩:=Qa7 hc.2.2;obtain⟨w1,w2⟩:=QcP c;obtain⟨_,hx⟩:=Qep d hc;obtain⟨_,n0,n1⟩:=hx hk;have n0:0≤(memN c d.1).getD 0 0:=n0;have n1:(memN c d.1).getD 0 0<Qao c:=n1;obtain⟨m1,m2⟩:=Qkh n0 n1 w1
 have e:QB c (QcR c d) a=(memN c d.1).getD 0 0*Qba c+a-1:=by
  unfold QB;rw[if_pos hk,if_neg (by omega)];rfl
 rw[e,w64 (x:=(memN c d.1).getD 0 0*Qba c) (by omega) (by omega),w64 (x:=(memN c d.1).getD 0 0*Qba c+a) (by omega) (by omega),w64 (by omega) (by omega)];exact⟨rfl,by omega⟩
theorem QIY{c:Cv}{d:Dv}{a:Int}(hk:c.2.1=2)(hc:cP c)(hu:u8s d.2)(g1:a>0)(g2:a≤Qba c):i64.wrap ((QaT c d.2).getD (i64.wrap (i64.wrap (i64.wrap ((memN c d.1).getD 0 0*Qba c)+a)-1)).toNat 0)=Qb2 c d a:=by
 obtain⟨e1,e2⟩:=QIX (d:=d) hk hc g1 g2;rw[e1,QCy (Qh2 _ hu),Qb2,if_pos e2]
theorem Qyi{c:Cv}{d:Dv}{a:Int}(hk:c.2.1=2)(hc:cP c)(g1:a>0)(g2:a≤Qba c):0≤i64.wrap (i64.wrap (i64.wrap ((memN c d.1).getD 0 0*Qba c)+a)-1)∧i64.wrap (i64.wrap (i64.wrap ((memN c d.1).getD 0 0*Qba c)+a)-1)<((QaT c d.2).length:Nat):=by
 obtain⟨e1,e2⟩:=QIX (d:=d) hk hc g1 g2;rw[e1];exact⟨e2,Qd3 d hc e2⟩
theorem QIZ{c:Cv}{d:Dv}{a:Int}(hk:c.2.1=2)(g:a=0):(memN c d.1).getD 0 0=Qb2 c d a:=by
 rw[Qb2,Qyh hk (by omega),if_neg (by decide),if_pos ⟨hk,g⟩]
theorem QFg{c:Cv}{d:Dv}{a:Int}(hk:c.2.1=2)(g:¬a=0)(h:¬a>0∨¬a≤Qba c):0=Qb2 c d a:=by
 rw[Qb2,Qyh hk (by omega),if_neg (by decide),if_neg (fun h=>g h.2)]
theorem Ql9{c:Cv}{N:List Int}(hk:c.2.1=2):0<(memN c N).length:=by
 unfold memN;rw[if_pos hk];show 0<1;omega
theorem QFh{c:Cv}{d:Dv}{a k:Int}(hk:c.2.1=0)(h0:a≥0)(h1:a<((QaT c d.2).length:Nat)):(memN c d.1,(QaT c d.2).set a.toNat (IntKind.u8.wrap (k%256)))=QaY c d a k:=by
 have e:QB c (QcR c d) a=a:=by
  unfold QB;rw[if_neg (by omega),if_neg];show¬(a<0∨a≥((QaT c d.2).length:Nat));omega
 have e2:IntKind.u8.wrap (k%256)=k%256:=by show k%256%256=k%256;omega
 rw[QaY,e,if_neg (by omega),if_pos h0,e2]
theorem QAD{c:Cv}{d:Dv}{a k:Int}(hk:c.2.1=0)(h:¬a≥0∨¬a<((QaT c d.2).length:Nat)):(memN c d.1,QaT c d.2)=QaY c d a k:=by
 have e:QB c (QcR c d) a=-1:=by
  unfold QB;rw[if_neg (by omega),if_pos];show a<0∨a≥((QaT c d.2).length:Nat);omega
 rw[QaY,e,if_neg (by omega),if_neg (by decide),if_neg (by omega)];rfl
theorem QFi{c:Cv}{d:Dv}{a k:Int}(hk:c.2.1=1):(memN c d.1,QaT c d.2)=QaY c d a k:=by
 rw[QaY,if_pos hk];rfl
theorem QI0{c:Cv}{d:Dv}{a k:Int}(hk:c.2.1=2)(g:a=0):((memN c d.1).set 0 (Int.tmod (k%256) (Qao c)),QaT c d.2)=QaY c d a k:=by
 rw[QaY,Qyh hk (by omega),if_neg (by omega),if_neg (by decide),if_pos ⟨hk,g⟩,Int.tmod_eq_emod_of_nonneg (by omega)]
theorem QI1{c:Cv}{d:Dv}{a k:Int}(hk:c.2.1=2)(hc:cP c)(g1:a>0)(g2:a≤Qba c):(memN c d.1,(QaT c d.2).set (i64.wrap (i64.wrap (i64.wrap ((memN c d.1).getD 0 0*Qba c)+a)-1)).toNat (IntKind.u8.wrap (k%256)))=QaY c d a k:=by
 obtain⟨e1,e2⟩:=QIX (d:=d) hk hc g1 g2;have e3:IntKind.u8.wrap (k%256)=k%256:=by show k%256%256=k%256;omega
 rw[e1,QaY,if_neg (by omega),if_pos e2,e3]
theorem QFj{c:Cv}{d:Dv}{a k:Int}(hk:c.2.1=2)(g:¬a=0)(h:¬a>0∨¬a≤Qba c):(memN c d.1,QaT c d.2)=QaY c d a k:=by
 rw[QaY,Qyh hk (by omega),if_neg (by omega),if_neg (by decide),if_neg (fun h=>g h.2)];rfl
def QG8(k:Int):Prop:=k=0∨k=1∨k=2∨(k<0∨8<k)
def Qma:PSpec:=⟨[gC,gD,gi],fun(c,d,a,_)=>(some ((cP c∧dP d)∧QG8 c.2.1),.tup [QiM,I1 (loadI c d a)],[.arr (.int .i64) (loadD c d a).1,.arr (.int .u8) (loadD c d a).2])⟩
theorem Qct:G0 76 Qma.spec:=by
 have hP:S0 _:=Qa QbH (Qa Qgg (Qa QfC (Qb (T:=tree))));have hT:=tabs hP Qc;refine Qma.gd hT hP Tryz.func76 fun(c:Cv) (d:Dv) (a:Int) hp=>?_
 obtain⟨cn,ck,cb,cs,cd⟩:=c;obtain⟨N,M⟩:=d;obtain⟨⟨hc,hl,hu⟩,hk⟩:(cP (cn,ck,cb,cs,cd)∧dP (N,M))∧QG8 ck:=hp _ rfl;clear hp;rcases hk with rfl|rfl|rfl|hx
 all_goals
  repeat' first|(exfalso;rename_i g;exact Qrp hx g (by decide))|(apply Ea;conv=>whnf)|apply Eb|apply Ec<;>intro _|apply Ed<;>intro _|apply Ee<;>intro _|apply Ef hT hP
  all_goals(try dsimp only[Qf] at *)
 all_goals clear hT hP
 ·exact⟨hc,hl⟩
 ·rename_i g1 g2;exact⟨g1,g2⟩
 ·rename_i g1 g2;have g2:a<((QaT (cn,0,cb,cs,cd) M).length:Nat):=g2;show a.toNat<(QaT (cn,0,cb,cs,cd) M).length;omega
 ·rename_i g1 g2;refine .k [] [4,5] _ rfl (QgO ?_);exact QAC (c:=(cn,0,cb,cs,cd)) (d:=(N,M)) (.inl rfl) hu g1 g2
 ·rename_i g1 g2;refine .k [] [4,5] _ rfl (QgO ?_);exact QpF (c:=(cn,0,cb,cs,cd)) (d:=(N,M)) (.inl rfl) (.inr g2)
 ·rename_i g1;refine .k [] [4,5] _ rfl (QgO ?_);exact QpF (c:=(cn,0,cb,cs,cd)) (d:=(N,M)) (.inl rfl) (.inl g1)
 ·exact⟨hc,hl⟩
 ·rename_i g1 g2;exact⟨g1,g2⟩
 ·rename_i g1 g2;have g2:a<((QaT (cn,1,cb,cs,cd) M).length:Nat):=g2;show a.toNat<(QaT (cn,1,cb,cs,cd) M).length;omega
 ·rename_i g1 g2;refine .k [] [4,5] _ rfl (QgO ?_);exact QAC (c:=(cn,1,cb,cs,cd)) (d:=(N,M)) (.inr rfl) hu g1 g2
 ·rename_i g1 g2;refine .k [] [4,5] _ rfl (QgO ?_);exact QpF (c:=(cn,1,cb,cs,cd)) (d:=(N,M)) (.inr rfl) (.inr g2)
 ·rename_i g1;refine .k [] [4,5] _ rfl (QgO ?_);exact QpF (c:=(cn,1,cb,cs,cd)) (d:=(N,M)) (.inr rfl) (.inl g1)
 ·exact⟨hc,hl⟩
 ·exact hc
 ·have h:=Ql9 (c:=(cn,2,cb,cs,cd)) (N:=N) rfl;show 0≤(0:Int)∧(0:Int)<((memN (cn,2,cb,cs,cd) N).length:Nat);omega
 ·exact Ql9 (c:=(cn,2,cb,cs,cd)) (N:=N) rfl
 ·rename_i g1;refine .k [] [4,5] _ rfl (QgO ?_);exact QIZ (c:=(cn,2,cb,cs,cd)) (d:=(N,M)) rfl g1
 ·have h:=Ql9 (c:=(cn,2,cb,cs,cd)) (N:=N) rfl;show 0≤(0:Int)∧(0:Int)<((memN (cn,2,cb,cs,cd) N).length:Nat);omega
 ·exact Ql9 (c:=(cn,2,cb,cs,cd)) (N:=N) rfl
 ·rename_i g1 g2 g3;exact Qyi (c:=(cn,2,cb,cs,cd)) (d:=(N,M)) rfl hc g2 g3
 ·rename_i g1 g2 g3;have h:=Qyi (c:=(cn,2,cb,cs,cd)) (d:=(N,M)) rfl hc g2 g3;exact(Int.toNat_lt h.1).2 h.2
 ·rename_i g1 g2 g3;refine .k [] [4,5] _ rfl (QgO ?_);exact QIY (c:=(cn,2,cb,cs,cd)) (d:=(N,M)) rfl hc hu g2 g3
 ·rename_i g1 g2 g3;refine .k [] [4,5] _ rfl (QgO ?_);exact QFg (c:=(cn,2,cb,cs,cd)) (d:=(N,M)) rfl g1 (.inr g3)
 ·rename_i g1 g2;refine .k [] [4,5] _ rfl (QgO ?_);exact QFg (c:=(cn,2,cb,cs,cd)) (d:=(N,M)) rfl g1 (.inl g2)
 ·exact⟨hc,hl⟩
 ·have e1:Q4 (cn,ck,cb,cs,cd) (N,M)=loadD (cn,ck,cb,cs,cd) (N,M) a:=by unfold Q4 loadD;rw[Qaa hx,Qaa hx]
  have e2:0=loadI (cn,ck,cb,cs,cd) (N,M) a:=by unfold loadI;rw[Qaa hx]
  exact .mk [] [4,5] _ R R R R R (Qcs e1) (QgO e2)
def Qmb:PSpec:=⟨[gC,gD,gi,gi],fun(c,d,a,k,_)=>(some ((cP c∧dP d)∧QG8 c.2.1),Qdv,[.arr (.int .i64) (Qbb c d a k).1,.arr (.int .u8) (Qbb c d a k).2])⟩
theorem Qcu:G0 77 Qmb.spec:=by
 have hP:S0 _:=Qa QbH (Qa Qco (Qa QfC (Qb (T:=tree))));have hT:=tabs hP Qc;refine Qmb.gd hT hP Tryz.func77 fun(c:Cv) (d:Dv) (a k:Int) hp=>?_
 obtain⟨cn,ck,cb,cs,cd⟩:=c;obtain⟨N,M⟩:=d;obtain⟨⟨hc,hl,hu⟩,hk⟩:(cP (cn,ck,cb,cs,cd)∧dP (N,M))∧QG8 ck:=hp _ rfl;clear hp;rcases hk with rfl|rfl|rfl|hx
 all_goals
  repeat' first|(exfalso;rename_i g;exact Qrp hx g (by decide))|(apply Ea;conv=>whnf)|apply Eb|apply Ec<;>intro _|apply Ed<;>intro _|apply Ee<;>intro _|apply Ef hT hP
  all_goals(try dsimp only[Qf] at *)
 all_goals clear hT hP
 ·exact⟨hc,hl⟩
 ·exact of_decide_eq_true rfl
 ·rename_i g1 g2;exact⟨g1,g2⟩
 ·rename_i g1 g2;have g2:a<((QaT (cn,0,cb,cs,cd) M).length:Nat):=g2;show a.toNat<(QaT (cn,0,cb,cs,cd) M).length;omega
 ·rename_i g1 g2;exact .mk [] [3,4] _ R R R R R (Qcs (QFh (c:=(cn,0,cb,cs,cd)) (d:=(N,M)) (k:=k) rfl g1 g2)) rfl
 ·rename_i g1 g2;exact .mk [] [3,4] _ R R R R R (Qcs (QAD (c:=(cn,0,cb,cs,cd)) (d:=(N,M)) (k:=k) rfl (.inr g2))) rfl
 ·rename_i g1;exact .mk [] [3,4] _ R R R R R (Qcs (QAD (c:=(cn,0,cb,cs,cd)) (d:=(N,M)) (k:=k) rfl (.inl g1))) rfl
 ·exact⟨hc,hl⟩
 ·exact of_decide_eq_true rfl
 ·exact .mk [] [3,4] _ R R R R R (Qcs (QFi (c:=(cn,1,cb,cs,cd)) (d:=(N,M)) (a:=a) (k:=k) rfl)) rfl
 ·exact⟨hc,hl⟩
 ·exact of_decide_eq_true rfl
 ·exact hc
 ·obtain⟨b1,b2,b3⟩:=Qa7 (c:=(cn,2,cb,cs,cd)) hc.2.2;show Qao (cn,2,cb,cs,cd)≠0;omega
 ·have h:=Ql9 (c:=(cn,2,cb,cs,cd)) (N:=N) rfl;show 0≤(0:Int)∧(0:Int)<((memN (cn,2,cb,cs,cd) N).length:Nat);omega
 ·exact Ql9 (c:=(cn,2,cb,cs,cd)) (N:=N) rfl
 ·rename_i g1;exact .mk [] [3,4] _ R R R R R (Qcs (QI0 (c:=(cn,2,cb,cs,cd)) (d:=(N,M)) (k:=k) rfl g1)) rfl
 ·have h:=Ql9 (c:=(cn,2,cb,cs,cd)) (N:=N) rfl;show 0≤(0:Int)∧(0:Int)<((memN (cn,2,cb,cs,cd) N).length:Nat);omega
 ·exact Ql9 (c:=(cn,2,cb,cs,cd)) (N:=N) rfl
 ·rename_i g1 g2 g3;exact Qyi (c:=(cn,2,cb,cs,cd)) (d:=(N,M)) rfl hc g2 g3
 ·rename_i g1 g2 g3;have h:=Qyi (c:=(cn,2,cb,cs,cd)) (d:=(N,M)) rfl hc g2 g3;exact(Int.toNat_lt h.1).2 h.2
 ·rename_i g1 g2 g3;exact .mk [] [3,4] _ R R R R R (Qcs (QI1 (c:=(cn,2,cb,cs,cd)) (d:=(N,M)) (k:=k) rfl hc g2 g3)) rfl
 ·rename_i g1 g2 g3;exact .mk [] [3,4] _ R R R R R (Qcs (QFj (c:=(cn,2,cb,cs,cd)) (d:=(N,M)) (k:=k) rfl g1 (.inr g3))) rfl
 ·rename_i g1 g2;exact .mk [] [3,4] _ R R R R R (Qcs (QFj (c:=(cn,2,cb,cs,cd)) (d:=(N,M)) (k:=k) rfl g1 (.inl g2))) rfl
 ·exact⟨hc,hl⟩
 ·exact of_decide_eq_true rfl
 ·have e1:Q4 (cn,ck,cb,cs,cd) (N,M)=Qbb (cn,ck,cb,cs,cd) (N,M) a k:=by unfold Q4 Qbb;rw[Qaa hx,Qaa hx]
  exact .mk [] [3,4] _ R R R R R (Qcs e1) rfl
def Qmc(c:Cv)(d:Dv)(k:Int):Dv:=sel c.2.1 (memN c d.1,QaT c d.2) (Qbf d.1,[]) (QxC d.1 k,[]) (QlD d.1 k,[]) (vN d.1,vM d.2) (Qah d.1,[]) (dcN d.1 (qF d.2) k,dM d.2) ([],[])
def QpG:PSpec:=⟨[gC,gD,gi],fun(c,d,k,_)=>(some ((cP c∧dP d)∧(c.2.1≠4∧c.2.1≠5∧c.2.1≠8)),Qdv,[.arr (.int .i64) (Q4 c d).1,.arr (.int .u8) (Q4 c d).2])⟩
theorem Qbv:G0 73 QpG.spec:=by
 have hP:S0 _:=Qa QbH (Qb (T:=tree));have hT:=tabs hP Qc;refine QpG.gd hT hP Tryz.func73 fun(c:Cv) (d:Dv) (k:Int) hp=>?_
 obtain⟨cn,ck,cb,cs,cd⟩:=c;obtain⟨N,M⟩:=d;obtain⟨⟨hc,hl,hu⟩,h4,h5,h8⟩:(cP (cn,ck,cb,cs,cd)∧dP (N,M))∧(ck≠4∧ck≠5∧ck≠8):=hp _ rfl;clear hp;rcases kinds ck with rfl|rfl|rfl|rfl|rfl|rfl|rfl|rfl|rfl|hx
 all_goals try(exfalso;omega)
 all_goals
  repeat' first|(exfalso;rename_i g;exact Qrp hx g (by decide))|(apply Ea;conv=>whnf)|apply Eb|apply Ec<;>intro _|apply Ed<;>intro _|apply Ee<;>intro _|apply Ef hT hP
  all_goals(try dsimp only[Qf] at *)
 all_goals first
  |exact⟨hc,hl⟩
  |exact .k [] [3,4] _ R R
  |exact .k [] [] _ R R
  |skip
def Qmd:PSpec:=⟨[gC,gD],fun(c,d,_)=>(some ((cP c∧dP d)∧(c.2.1≠3∧c.2.1≠5∧c.2.1≠8)),.cell (bv false),[])⟩
theorem QaZ:G0 16 Qmd.spec:=by
 have hP:S0 _:=Qa QbH (Qb (T:=tree));have hT:=tabs hP Qc;refine Qmd.gd hT hP Tryz.func16 fun(c:Cv) (d:Dv) hp=>?_
 obtain⟨cn,ck,cb,cs,cd⟩:=c;obtain⟨N,M⟩:=d;obtain⟨⟨hc,hl,hu⟩,h4,h5,h8⟩:(cP (cn,ck,cb,cs,cd)∧dP (N,M))∧(ck≠3∧ck≠5∧ck≠8):=hp _ rfl;clear hp;rcases kinds ck with rfl|rfl|rfl|rfl|rfl|rfl|rfl|rfl|rfl|hx
 all_goals try(exfalso;omega)
 all_goals
  repeat' first|(exfalso;rename_i g;exact Qrp hx g (by decide))|(apply Ea;conv=>whnf)|apply Eb|apply Ec<;>intro _|apply Ed<;>intro _|apply Ee<;>intro _|apply Ef hT hP
  all_goals(try dsimp only[Qf] at *)
 all_goals first
  |exact⟨hc,hl⟩
  |exact .k [] [3,4] _ R R
  |exact .k [] [] _ R R
  |skip
def QpH:PSpec:=⟨[gC,gD],fun(c,d,_)=>(some ((cP c∧dP d)∧(c.2.1<4∨8<c.2.1)),I 0,[])⟩
theorem Qch:G0 72 QpH.spec:=by
 have hP:S0 _:=Qa QbH (Qb (T:=tree));have hT:=tabs hP Qc;refine QpH.gd hT hP Tryz.func72 fun(c:Cv) (d:Dv) hp=>?_
 obtain⟨cn,ck,cb,cs,cd⟩:=c;obtain⟨N,M⟩:=d;obtain⟨⟨hc,hl,hu⟩,hk⟩:(cP (cn,ck,cb,cs,cd)∧dP (N,M))∧(ck<4∨8<ck):=hp _ rfl;clear hp;rcases kinds ck with rfl|rfl|rfl|rfl|rfl|rfl|rfl|rfl|rfl|hx
 all_goals try(exfalso;omega)
 all_goals
  repeat' first|(exfalso;rename_i g;exact Qrp hx g (by decide))|(apply Ea;conv=>whnf)|apply Eb|apply Ec<;>intro _|apply Ed<;>intro _|apply Ee<;>intro _|apply Ef hT hP
  all_goals(try dsimp only[Qf] at *)
 all_goals first
  |exact⟨hc,hl⟩
  |exact .k [] [3,4] _ R R
  |exact .k [] [] _ R R
  |skip
def QpI:PSpec:=⟨[gC,gD],fun(c,d,_)=>(some ((cP c∧dP d)∧(c.2.1<3∨c.2.1=4∨8<c.2.1)),I 100000,[])⟩
theorem Qci:G0 29 QpI.spec:=by
 have hP:S0 _:=Qa QbH (Qb (T:=tree));have hT:=tabs hP Qc;refine QpI.gd hT hP Tryz.func29 fun(c:Cv) (d:Dv) hp=>?_
 obtain⟨cn,ck,cb,cs,cd⟩:=c;obtain⟨N,M⟩:=d;obtain⟨⟨hc,hl,hu⟩,hk⟩:(cP (cn,ck,cb,cs,cd)∧dP (N,M))∧(ck<3∨ck=4∨8<ck):=hp _ rfl;clear hp;rcases kinds ck with rfl|rfl|rfl|rfl|rfl|rfl|rfl|rfl|rfl|hx
 all_goals try(exfalso;omega)
 all_goals
  repeat' first|(exfalso;rename_i g;exact Qrp hx g (by decide))|(apply Ea;conv=>whnf)|apply Eb|apply Ec<;>intro _|apply Ed<;>intro _|apply Ee<;>intro _|apply Ef hT hP
  all_goals(try dsimp only[Qf] at *)
 all_goals first
  |exact⟨hc,hl⟩
  |exact .k [] [3,4] _ R R
  |exact .k [] [] _ R R
  |skip
end Go.Proofs.YtofgbclopbmlcaaGreat

