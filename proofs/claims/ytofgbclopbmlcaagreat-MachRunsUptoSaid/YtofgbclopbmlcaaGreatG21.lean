/- Part 21 of the proof. Conditions: none. -/
import Derived.Test.YtofgbclopbmlcaaGreatG20
import Derived.Test.YtofgbclopbmlcaaGreatG17
namespace Go.Proofs.YtofgbclopbmlcaaGreat
open Go.IntKind (i64)
set_option maxHeartbeats 4000000
open Go.Fw
set_option linter.unusedVariables false
set_option linter.unusedSimpArgs false
set_option maxRecDepth 100000
theorem QgZ{x y:Int}(h2:x=y):AV.tup [.agg [.own 0,.imm (.slice none 0 0)],I1 x]=AV.tup [.agg [.own 0,.imm (.slice none 0 0)],I1 y]:=by rw[h2]
def trF(N:List Int)(a:Int):Int:=QbU [tA N%256,tA N/256,tC N,tF N] a
def trN(N:List Int)(a:Int):List Int:=[tA N,tB N,tC N,if a=3 then 0 else tF N]
def QAj:PSpec:=⟨[gD,gi],fun(d,a,_)=>(none,.tup [.agg [.own 0,.imm (.slice none 0 0)],I1 (trF d.1 a)],[.arr (.int .i64) (trN d.1 a)])⟩
theorem QxI:G0 173 QAj.spec:=by
 have hP:S0 _:=Qa QhV (Qa QhW (Qb (T:=tree)));have hT:=tabs hP Qc;refine QAj.gd hT hP Tryz.func173 fun(d:Dv) (a:Int) _=>?_
 obtain⟨N,M⟩:=d;obtain⟨rA,rB,rC,rF⟩:=tR N
 repeat' first|(apply Ea;conv=>whnf)|apply Eb|apply Ec<;>intro _|apply Ed<;>intro _|apply Ee<;>intro _|apply Ef hT hP
 all_goals(try subst_vars)
 all_goals first
  |exact rfl
  |exact of_decide_eq_true rfl
  |(refine⟨?_,?_,by decide,by decide,by decide⟩
    ·exact rA.1
    ·exact(by omega:tA N<4611686018427387904))
  |exact .k [] [2] _ R R
  |skip
 ·refine .k [] [2] _ rfl (QgZ ?_);show tA N/1%256=tA N%256;omega
 ·refine .k [] [2] _ rfl (QgZ ?_);show tA N/256%256=tA N/256;omega
 ·rename_i h0 h1 h2 h3
  have e:trF N a=0:=QhF fun i hi=>by
   have:i<4:=hi;omega
  refine .mk [] [2] _ R R R R R (Qbg (l:=Qbf N) ?_) (QgZ e.symm);show _=trN N a;rw[Qb0,trN,if_neg h3]
def Qpa:PSpec:=⟨[gC,gD,gi],fun(c,d,a,_)=>(some (c.2.1=3),.tup [.agg [.own 0,.imm (.slice none 0 0)],I1 (trF d.1 a)],[.arr (.int .i64) (trN d.1 a)])⟩
theorem Qq4:G0 76 Qpa.spec:=by
 have hP:S0 _:=Qa Qce (Qa Qgg (Qb (T:=tree)));have hT:=tabs hP Qc;refine Qpa.gd hT hP Tryz.func76 fun(c:Cv) (d:Dv) (a:Int) hp=>?_
 obtain⟨cn,ck,cb,cs,cd⟩:=c;obtain rfl:ck=3:=hp _ rfl;obtain⟨N,M⟩:=d;obtain⟨rA,rB,rC,rF⟩:=tR N
 repeat' first|(apply Ea;conv=>whnf)|apply Eb|apply Ec<;>intro _|apply Ed<;>intro _|apply Ee<;>intro _|apply Ef hT hP
 all_goals first
  |exact rfl
  |exact of_decide_eq_true rfl
  |skip
 ·rename_i h;have h:a=3:=h;subst h;exact .k [] [4] _ R R
 ·rename_i h;have h:¬a=3:=h;refine .mk [] [4] _ R R R R R (Qbg (l:=Qbf N) ?_) (QgZ ?_)
  ·show _=trN N a;rw[Qb0,trN,if_neg h]
  ·show QbU [Int.tmod (tA N) 256,i64.wrap (Int.tdiv (tA N) 256),tC N,tF N] a=QbU [tA N%256,tA N/256,tC N,tF N] a;rw[Int.tmod_eq_emod_of_nonneg (by omega),Int.tdiv_eq_ediv_of_nonneg (by omega),w64 (by omega) (by omega)]
def QER:PSpec:=⟨[gD],fun(d,_)=>(none,.cell (bv (decide (tF d.1=1)&&decide (tC d.1≥4))),[])⟩
theorem QCd:G0 125 QER.spec:=by
 have hP:S0 _:=Qa QhV (Qb (T:=tree));have hT:=tabs hP Qc;refine QER.gd hT hP Tryz.func125 fun(d:Dv) _=>?_
 obtain⟨N,M⟩:=d;obtain⟨rA,rB,rC,rF⟩:=tR N;obtain⟨c1,c2,c4,c3⟩:=ctl rC.1 rC.2
 repeat' first|(apply Ea;conv=>whnf)|apply Eb|apply Ec<;>intro _|apply Ed<;>intro _|apply Ee<;>intro _|apply Ef hT hP
 all_goals first
  |exact of_decide_eq_true rfl
  |skip
 ·rename_i h;have h:tF N=1:=h;refine .k [] [] _ rfl (Qi ?_);show(land .i64 (tC N) 4 != 0)=(decide (tF N=1)&&decide (tC N≥4))
  rw[c4,decide_eq_true h,Bool.true_and]
 ·rename_i h;have h:¬tF N=1:=h;refine .k [] [] _ rfl (Qi ?_);show _=(decide (tF N=1)&&decide (tC N≥4))
  rw[decide_eq_false h];rfl
def QES:PSpec:=⟨[gC,gD],fun(c,d,_)=>(some (c.2.1=3),.cell (bv (decide (tF d.1=1)&&decide (tC d.1≥4))),[])⟩
theorem QCe:G0 16 QES.spec:=by
 have hP:S0 _:=Qa Qce (Qb (T:=tree));have hT:=tabs hP Qc;refine QES.gd hT hP Tryz.func16 fun(c:Cv) (d:Dv) hp=>?_
 obtain⟨cn,ck,cb,cs,cd⟩:=c;obtain rfl:ck=3:=hp _ rfl;obtain⟨N,M⟩:=d
 repeat' first|(apply Ea;conv=>whnf)|apply Eb|apply Ec<;>intro _|apply Ed<;>intro _|apply Ee<;>intro _|apply Ef hT hP
 all_goals first
  |exact rfl
  |exact of_decide_eq_true rfl
  |skip
 ·rename_i h;have h:tF N=1:=h;refine .k [] [] _ rfl (Qi ?_);show decide (tC N≥4)=(decide (tF N=1)&&decide (tC N≥4))
  rw[decide_eq_true h,Bool.true_and]
 ·rename_i h;have h:¬tF N=1:=h;refine .k [] [] _ rfl (Qi ?_);show _=(decide (tF N=1)&&decide (tC N≥4))
  rw[decide_eq_false h];rfl
def Qb6(N:List Int):Int:=if tC N%2=0 then 100000 else tA N
def QAk:PSpec:=⟨[gD],fun(d,_)=>(none,I (Qb6 d.1),[])⟩
theorem QxJ:G0 149 QAk.spec:=by
 have hP:S0 _:=Qa QhV (Qb (T:=tree));have hT:=tabs hP Qc;refine QAk.gd hT hP Tryz.func149 fun(d:Dv) _=>?_
 obtain⟨N,M⟩:=d;obtain⟨rA,rB,rC,rF⟩:=tR N;obtain⟨c1,c2,c4,c3⟩:=ctl rC.1 rC.2
 repeat' first|(apply Ea;conv=>whnf)|apply Eb|apply Ec<;>intro _|apply Ed<;>intro _|apply Ee<;>intro _|apply Ef hT hP
 all_goals first
  |exact of_decide_eq_true rfl
  |skip
 ·rename_i h;have h:land .i64 (tC N) 1=0:=h;rw[h] at c1;refine .k [] [] _ rfl (Qd ?_);show _=Qb6 N;rw[Qb6,if_pos (of_decide_eq_true c1.symm)]
 ·rename_i h;have h:¬land .i64 (tC N) 1=0:=h
  have hc:¬tC N%2=0:=by
   intro e;rw[decide_eq_true e] at c1;exact h (by simpa using c1)
  refine .k [] [] _ rfl (Qd ?_);show _=Qb6 N;rw[Qb6,if_neg hc];rfl
def QtI:PSpec:=⟨[gC,gD],fun(c,d,_)=>(some (c.2.1=3),I (Qb6 d.1),[])⟩
theorem QtJ:G0 29 QtI.spec:=by
 have hP:S0 _:=Qa Qce (Qb (T:=tree));have hT:=tabs hP Qc;refine QtI.gd hT hP Tryz.func29 fun(c:Cv) (d:Dv) hp=>?_
 obtain⟨cn,ck,cb,cs,cd⟩:=c;obtain rfl:ck=3:=hp _ rfl;obtain⟨N,M⟩:=d;obtain⟨rA,rB,rC,rF⟩:=tR N
 repeat' first|(apply Ea;conv=>whnf)|apply Eb|apply Ec<;>intro _|apply Ed<;>intro _|apply Ee<;>intro _|apply Ef hT hP
 all_goals first
  |exact rfl
  |exact of_decide_eq_true rfl
  |skip
 ·rename_i h;have h:Int.tmod (tC N) 2=1:=h;rw[Int.tmod_eq_emod_of_nonneg (by omega)] at h;refine .k [] [] _ rfl (Qd ?_);show _=Qb6 N;rw[Qb6,if_neg (by omega)];rfl
 ·rename_i h;have h:¬Int.tmod (tC N) 2=1:=h;rw[Int.tmod_eq_emod_of_nonneg (by omega)] at h;refine .k [] [] _ rfl (Qd ?_);show _=Qb6 N;rw[Qb6,if_pos (by omega)]
theorem QLL{c:Int}(h0:0≤c)(h1:c<4):((land .i64 c 1 != 0)=decide (c%2=1))∧((land .i64 c 2 != 0)=decide (c≥2)):=by
 have:c=0∨c=1∨c=2∨c=3:=by omega
 rcases this with rfl|rfl|rfl|rfl<;>decide +kernel
def Qpb:PSpec:=⟨[gC,gD,gi],fun(c,d,a,_)=>(some (c.2.1=5),.tup [.agg [.own 0,.imm (.slice none 0 0)],I1 (srF d.1 a)],[.arr (.int .i64) (srN d.1 a)])⟩
theorem Qq5:G0 76 Qpb.spec:=by
 have hP:S0 _:=Qa Qbu (Qa Qgg (Qa Qnc (Qb (T:=tree))));have hT:=tabs hP Qc;refine Qpb.gd hT hP Tryz.func76 fun(c:Cv) (d:Dv) (a:Int) hp=>?_
 obtain⟨cn,ck,cb,cs,cd⟩:=c;obtain rfl:ck=5:=hp _ rfl;obtain⟨N,M⟩:=d;obtain⟨h0,h1,h2,h3,h4,h5,h6,h7⟩:=sR N;have hb:0≤QdL (decide (s1 N>0))∧QdL (decide (s1 N>0))≤1:=by cases decide (s1 N>0)<;>decide
 have hv:i64.wrap (i64.wrap (s3 N+i64.wrap (2*QdL (decide (s1 N>0))))+i64.wrap (4*s4 N))=s3 N+2*QdL (decide (s1 N>0))+4*s4 N:=by
  rw[w64 (x:=2*QdL (decide (s1 N>0))) (by omega) (by omega),w64 (x:=4*s4 N) (by omega) (by omega),w64 (x:=s3 N+2*QdL (decide (s1 N>0))) (by omega) (by omega),w64 (by omega) (by omega)]
 have fin:∀x,x=[s0 N,s1 N,s2 N,s3 N,s4 N,s5 N,s6 N,s7 N]→True:=fun _ _=>trivial
 repeat' first|(apply Ea;conv=>whnf)|apply Eb|apply Ec<;>intro _|apply Ed<;>intro _|apply Ee<;>intro _|apply Ef hT hP
 all_goals first
  |exact rfl
  |exact of_decide_eq_true rfl
  |skip
 all_goals
  refine .mk [] [4] _ R R R R R ?_ (Qcq (congrArg (fun z=>QbU [s2 N,z,s5 N] a) hv))
 ·rename_i g0 g1;have g0:a=0:=g0;have g1:a=1:=g1;omega
 ·rename_i g0 g1;have g0:a=0:=g0;subst g0;exact rfl
 ·rename_i g0 g1;have g1:a=1:=g1;subst g1;exact rfl
 ·rename_i g0 g1;have g0:¬a=0:=g0;have g1:¬a=1:=g1;refine Ql (l:=Qa9 N) (l':=srN N a) ?_;rw[Qdt,srN,if_neg g0,if_neg g1]
def swN(N:List Int)(a k:Int):List Int :=
 [if a=0∧s1 N=0 then k%256 else s0 N,if a=0∧s1 N=0 then 40 else s1 N,s2 N,s3 N,s4 N,if a=2 then k%4 else s5 N,s6 N,s7 N]
def QtK:PSpec:=⟨[gD,gi,gi],fun(d,a,k,_)=>(none,Qfb,[.arr (.int .i64) (swN d.1 a k)])⟩
theorem QET{N:List Int}{k:Int}(h:s1 N=0):swN N 0 k=[k%256,40,s2 N,s3 N,s4 N,s5 N,s6 N,s7 N]:=by
 rw[swN,if_pos ⟨rfl,h⟩,if_pos ⟨rfl,h⟩,if_neg (by omega)]
theorem QEU{N:List Int}{k:Int}:swN N 2 k=[s0 N,s1 N,s2 N,s3 N,s4 N,k%4,s6 N,s7 N]:=by
 rw[swN,if_neg (fun e=>by omega),if_neg (fun e=>by omega),if_pos rfl]
theorem Qpc{N:List Int}{a k:Int}(h:¬(a=0∧s1 N=0))(h2:¬a=2):swN N a k=Qa9 N:=by
 rw[swN,if_neg h,if_neg h,if_neg h2];rfl
theorem QtL:G0 182 QtK.spec:=by
 have hP:S0 _:=Qa QeY (Qa QN (Qb (T:=tree)));have hT:=tabs hP Qc;refine QtK.gd hT hP Tryz.func182 fun(d:Dv) (a k:Int) _=>?_
 obtain⟨N,M⟩:=d
 repeat' first|(apply Ea;conv=>whnf)|apply Eb|apply Ec<;>intro _|apply Ed<;>intro _|apply Ee<;>intro _|apply Ef hT hP
 all_goals first
  |exact rfl
  |exact of_decide_eq_true rfl
  |skip
 ·rename_i g0 g1;have g1:s1 N=0:=g1;subst g0;refine .mk [] [2] _ R R R R R (Ql (l:=[k%2 ^ (8:Int).toNat,40,s2 N,s3 N,s4 N,s5 N,s6 N,s7 N]) (l':=swN N 0 k) ?_) rfl;rw[QET g1];rfl
 ·rename_i g0 g1 g2;omega
 ·rename_i g0 g1 g2;have g1:¬s1 N=0:=g1;refine .mk [] [2] _ R R R R R (Ql (l:=Qa9 N) (l':=swN N a k) ?_) rfl;rw[Qpc (fun e=>g1 e.2) g2]
 ·rename_i g0 g1;subst g1;refine .mk [] [2] _ R R R R R (Ql (l:=[s0 N,s1 N,s2 N,s3 N,s4 N,k%2 ^ (2:Int).toNat,s6 N,s7 N]) (l':=swN N 2 k) ?_) rfl;rw[QEU];rfl
 ·rename_i g0 g1;refine .mk [] [2] _ R R R R R (Ql (l:=Qa9 N) (l':=swN N a k) ?_) rfl;rw[Qpc (fun e=>g0 e.1) g1]
def Qpd:PSpec:=⟨[gC,gD,gi,gi],fun(c,d,a,k,_)=>(some (c.2.1=5),Qfb,[.arr (.int .i64) (swN d.1 a k)])⟩
theorem Qq6:G0 77 Qpd.spec:=by
 have hP:S0 _:=Qa Qbu (Qa Qco (Qb (T:=tree)));have hT:=tabs hP Qc;refine Qpd.gd hT hP Tryz.func77 fun(c:Cv) (d:Dv) (a k:Int) hp=>?_
 obtain⟨cn,ck,cb,cs,cd⟩:=c;obtain rfl:ck=5:=hp _ rfl;obtain⟨N,M⟩:=d
 repeat' first|(apply Ea;conv=>whnf)|apply Eb|apply Ec<;>intro _|apply Ed<;>intro _|apply Ee<;>intro _|apply Ef hT hP
 all_goals first
  |exact rfl
  |exact of_decide_eq_true rfl
  |skip
 ·rename_i g0 g1 g2;omega
 ·rename_i g0 g1 g2;have g0:a=0:=g0;have g1:s1 N=0:=g1;subst g0;refine .mk [] [3] _ R R R R R (Ql (l:=[k%256,40,s2 N,s3 N,s4 N,s5 N,s6 N,s7 N]) (l':=swN N 0 k) ?_) rfl;rw[QET g1]
 ·rename_i g0 g1 g2;omega
 ·rename_i g0 g1 g2;have g1:¬s1 N=0:=g1;refine .mk [] [3] _ R R R R R (Ql (l:=Qa9 N) (l':=swN N a k) ?_) rfl;rw[Qpc (fun e=>g1 e.2) g2]
 ·rename_i g0 g1;subst g1;refine .mk [] [3] _ R R R R R (Ql (l:=[s0 N,s1 N,s2 N,s3 N,s4 N,Int.tmod (k%256) 4,s6 N,s7 N]) (l':=swN N 2 k) ?_) rfl;have e:Int.tmod (k%256) 4=k%4:=by rw[Int.tmod_eq_emod_of_nonneg (by omega)];omega
  rw[QEU,e]
 ·rename_i g0 g1;refine .mk [] [3] _ R R R R R (Ql (l:=Qa9 N) (l':=swN N a k) ?_) rfl;rw[Qpc (fun e=>g0 e.1) g1]
def QtM:PSpec:=⟨[gC,gD,gi],fun(c,d,k,_)=>(some (c.2.1=5),Qfb,[.arr (.int .i64) (QlD d.1 k)])⟩
theorem QtN:G0 73 QtM.spec:=by
 have hP:S0 _:=Qa Qbu (Qa Qco (Qb (T:=tree)));have hT:=tabs hP Qc;refine QtM.gd hT hP Tryz.func73 fun(c:Cv) (d:Dv) (k:Int) hp=>?_
 obtain⟨cn,ck,cb,cs,cd⟩:=c;obtain rfl:ck=5:=hp _ rfl;obtain⟨N,M⟩:=d
 repeat' first|(apply Ea;conv=>whnf)|apply Eb|apply Ec<;>intro _|apply Ed<;>intro _|apply Ee<;>intro _|apply Ef hT hP
 all_goals first
  |exact rfl
  |exact of_decide_eq_true rfl
  |(rename_i h
    have h:s3 N=1:=h;refine .mk [] [3] _ R R R R R (Ql (l:=[s0 N,s1 N,s2 N,s3 N,1,s5 N,s6 N,s7 N]) ?_) rfl;show _=QlD N k
    rw[QlD,if_pos h,if_pos h,h])
  |(rename_i h
    have h:¬s3 N=1:=h;refine .mk [] [3] _ R R R R R (Ql (l:=[s0 N,s1 N,k%256,1,s4 N,s5 N,s6 N,s7 N]) ?_) rfl;show _=QlD N k
    rw[QlD,if_neg h,if_neg h])
def QcQ(N:List Int):Bool:=(decide (s5 N%2=1)&&decide (s3 N=1))||(decide (s5 N≥2)&&decide (s1 N=0))
theorem QEV{N:List Int}(h:s5 N%2=1)(h2:s3 N=1):true=QcQ N:=by unfold QcQ;rw[decide_eq_true h,decide_eq_true h2];rfl
theorem QxK{N:List Int}(h:¬(s5 N%2=1∧s3 N=1))(h2:s5 N≥2):decide (s1 N=0)=QcQ N:=by
 unfold QcQ;rw[←Bool.decide_and,decide_eq_false h,decide_eq_true h2];rfl
theorem QxL{N:List Int}(h:¬(s5 N%2=1∧s3 N=1))(h2:¬s5 N≥2):false=QcQ N:=by
 unfold QcQ;rw[←Bool.decide_and,decide_eq_false h,decide_eq_false h2];rfl
def QEW:PSpec:=⟨[gD],fun(d,_)=>(none,.cell (bv (QcQ d.1)),[])⟩
theorem QCf:G0 126 QEW.spec:=by
 have hP:S0 _:=Qa QeY (Qb (T:=tree));have hT:=tabs hP Qc;refine QEW.gd hT hP Tryz.func126 fun(d:Dv) _=>?_
 obtain⟨N,M⟩:=d;obtain⟨h0,h1,h2,h3,h4,h5,h6,h7⟩:=sR N;obtain⟨c1,c2⟩:=QLL h5.1 h5.2
 repeat' first|(apply Ea;conv=>whnf)|apply Eb|apply Ec<;>intro _|apply Ed<;>intro _|apply Ee<;>intro _|apply Ef hT hP
 all_goals first
  |exact of_decide_eq_true rfl
  |skip
 ·rename_i g q;have g:(land .i64 (s5 N) 1 != 0)=true:=g;rw[c1] at g;have g:=of_decide_eq_true g;have q:s3 N=1:=q;refine .k [] [] _ rfl (Qi ?_);show true=QcQ N;exact QEV g q
 ·rename_i g q r;have g:(land .i64 (s5 N) 1 != 0)=true:=g;rw[c1] at g;have g:=of_decide_eq_true g;have q:¬s3 N=1:=q;have r:(land .i64 (s5 N) 2 != 0)=true:=r;rw[c2] at r;have r:=of_decide_eq_true r;refine .k [] [] _ rfl (Qi ?_);show decide (s1 N=0)=QcQ N;exact QxK (fun e=>q e.2) r
 ·rename_i g q r;have g:(land .i64 (s5 N) 1 != 0)=true:=g;rw[c1] at g;have g:=of_decide_eq_true g;have q:¬s3 N=1:=q;have r:(land .i64 (s5 N) 2 != 0)=false:=r;rw[c2] at r;have r:=of_decide_eq_false r;refine .k [] [] _ rfl (Qi ?_);show false=QcQ N;exact QxL (fun e=>q e.2) r
 ·rename_i g r;have g:(land .i64 (s5 N) 1 != 0)=false:=g;rw[c1] at g;have g:=of_decide_eq_false g;have r:(land .i64 (s5 N) 2 != 0)=true:=r;rw[c2] at r;have r:=of_decide_eq_true r;refine .k [] [] _ rfl (Qi ?_);show decide (s1 N=0)=QcQ N;exact QxK (fun e=>g e.1) r
 ·rename_i g r;have g:(land .i64 (s5 N) 1 != 0)=false:=g;rw[c1] at g;have g:=of_decide_eq_false g;have r:(land .i64 (s5 N) 2 != 0)=false:=r;rw[c2] at r;have r:=of_decide_eq_false r;refine .k [] [] _ rfl (Qi ?_);show false=QcQ N;exact QxL (fun e=>g e.1) r
def QEX:PSpec:=⟨[gC,gD],fun(c,d,_)=>(some (c.2.1=5),.cell (bv (QcQ d.1)),[])⟩
theorem QCg:G0 16 QEX.spec:=by
 have hP:S0 _:=Qa Qbu (Qb (T:=tree));have hT:=tabs hP Qc;refine QEX.gd hT hP Tryz.func16 fun(c:Cv) (d:Dv) hp=>?_
 obtain⟨cn,ck,cb,cs,cd⟩:=c;obtain rfl:ck=5:=hp _ rfl;obtain⟨N,M⟩:=d;obtain⟨h0,h1,h2,h3,h4,h5,h6,h7⟩:=sR N
 repeat' first|(apply Ea;conv=>whnf)|apply Eb|apply Ec<;>intro _|apply Ed<;>intro _|apply Ee<;>intro _|apply Ef hT hP
 all_goals first
  |exact rfl
  |exact of_decide_eq_true rfl
  |skip
 ·rename_i g q;have g:Int.tmod (s5 N) 2=1:=g;rw[Int.tmod_eq_emod_of_nonneg h5.1] at g;have q:s3 N=1:=q;refine .k [] [] _ rfl (Qi ?_);show true=QcQ N;exact QEV g q
 ·rename_i g q r;have g:Int.tmod (s5 N) 2=1:=g;rw[Int.tmod_eq_emod_of_nonneg h5.1] at g;have q:¬s3 N=1:=q;have r:s5 N≥2:=r;refine .k [] [] _ rfl (Qi ?_);show decide (s1 N=0)=QcQ N;exact QxK (fun e=>q e.2) r
 ·rename_i g q r;have g:Int.tmod (s5 N) 2=1:=g;rw[Int.tmod_eq_emod_of_nonneg h5.1] at g;have q:¬s3 N=1:=q;have r:¬s5 N≥2:=r;refine .k [] [] _ rfl (Qi ?_);show false=QcQ N;exact QxL (fun e=>q e.2) r
 ·rename_i g r;have g:¬Int.tmod (s5 N) 2=1:=g;rw[Int.tmod_eq_emod_of_nonneg h5.1] at g;have r:s5 N≥2:=r;refine .k [] [] _ rfl (Qi ?_);show decide (s1 N=0)=QcQ N;exact QxK (fun e=>g e.1) r
 ·rename_i g r;have g:¬Int.tmod (s5 N) 2=1:=g;rw[Int.tmod_eq_emod_of_nonneg h5.1] at g;have r:¬s5 N≥2:=r;refine .k [] [] _ rfl (Qi ?_);show false=QcQ N;exact QxL (fun e=>g e.1) r
def QEY:PSpec:=⟨[gD],fun(d,_)=>(none,I (s6 d.1*256+s7 d.1),[])⟩
theorem QCh:G0 216 QEY.spec:=by
 have hP:S0 _:=Qa QeY (Qb (T:=tree));have hT:=tabs hP Qc;refine QEY.gd hT hP Tryz.func216 fun(d:Dv) _=>?_
 obtain⟨N,M⟩:=d;obtain⟨h0,h1,h2,h3,h4,h5,h6,h7⟩:=sR N
 repeat' first|(apply Ea;conv=>whnf)|apply Eb|apply Ec<;>intro _|apply Ed<;>intro _|apply Ee<;>intro _|apply Ef hT hP
 all_goals first
  |exact of_decide_eq_true rfl
  |(refine .k [] [] _ rfl (Qd ?_)
    show i64.wrap (i64.wrap (256*s6 N)+s7 N)=s6 N*256+s7 N
    rw[w64 (x:=256*s6 N) (by omega) (by omega),w64 (by omega) (by omega)];omega)
def QtO:PSpec:=⟨[gC,gD],fun(c,d,_)=>(some (c.2.1=5),I (s6 d.1*256+s7 d.1),[])⟩
theorem QtP:G0 72 QtO.spec:=by
 have hP:S0 _:=Qa Qbu (Qb (T:=tree));have hT:=tabs hP Qc;refine QtO.gd hT hP Tryz.func72 fun(c:Cv) (d:Dv) hp=>?_
 obtain⟨cn,ck,cb,cs,cd⟩:=c;obtain rfl:ck=5:=hp _ rfl;obtain⟨N,M⟩:=d;obtain⟨h0,h1,h2,h3,h4,h5,h6,h7⟩:=sR N
 repeat' first|(apply Ea;conv=>whnf)|apply Eb|apply Ec<;>intro _|apply Ed<;>intro _|apply Ee<;>intro _|apply Ef hT hP
 all_goals first
  |exact rfl
  |exact of_decide_eq_true rfl
  |(refine .k [] [] _ rfl (Qd ?_)
    show i64.wrap (i64.wrap (s6 N*256)+s7 N)=s6 N*256+s7 N
    rw[w64 (x:=s6 N*256) (by omega) (by omega),w64 (by omega) (by omega)])
def Qb7(N:List Int):Int:=if s1 N=0 then 100000 else s1 N-1
def QAl:PSpec:=⟨[gD],fun(d,_)=>(none,I (Qb7 d.1),[])⟩
theorem QxM:G0 150 QAl.spec:=by
 have hP:S0 _:=Qa QeY (Qb (T:=tree));have hT:=tabs hP Qc;refine QAl.gd hT hP Tryz.func150 fun(d:Dv) _=>?_
 obtain⟨N,M⟩:=d;obtain⟨h0,h1,h2,h3,h4,h5,h6,h7⟩:=sR N
 repeat' first|(apply Ea;conv=>whnf)|apply Eb|apply Ec<;>intro _|apply Ed<;>intro _|apply Ee<;>intro _|apply Ef hT hP
 all_goals first
  |exact of_decide_eq_true rfl
  |(rename_i h
    have h:s1 N=0:=h;refine .k [] [] _ rfl (Qd ?_);show _=Qb7 N
    rw[Qb7,if_pos h])
  |(rename_i h
    have h:¬s1 N=0:=h;refine .k [] [] _ rfl (Qd ?_);show i64.wrap (s1 N-1)=Qb7 N
    rw[Qb7,if_neg h,w64 (by omega) (by omega)])
def QtQ:PSpec:=⟨[gC,gD],fun(c,d,_)=>(some (c.2.1=5),I (Qb7 d.1),[])⟩
theorem QtR:G0 29 QtQ.spec:=by
 have hP:S0 _:=Qa Qbu (Qb (T:=tree));have hT:=tabs hP Qc;refine QtQ.gd hT hP Tryz.func29 fun(c:Cv) (d:Dv) hp=>?_
 obtain⟨cn,ck,cb,cs,cd⟩:=c;obtain rfl:ck=5:=hp _ rfl;obtain⟨N,M⟩:=d;obtain⟨h0,h1,h2,h3,h4,h5,h6,h7⟩:=sR N
 repeat' first|(apply Ea;conv=>whnf)|apply Eb|apply Ec<;>intro _|apply Ed<;>intro _|apply Ee<;>intro _|apply Ef hT hP
 all_goals first
  |exact rfl
  |exact of_decide_eq_true rfl
  |(rename_i h
    have h:s1 N>0:=h;refine .k [] [] _ rfl (Qd ?_);show i64.wrap (s1 N-1)=Qb7 N
    rw[Qb7,if_neg (by omega),w64 (by omega) (by omega)])
  |(rename_i h
    have h:¬s1 N>0:=h;refine .k [] [] _ rfl (Qd ?_);show _=Qb7 N
    rw[Qb7,if_pos (by omega)])
def vo(N:List Int)(i:Nat):List Int:=[N.getD i 0%4096,N.getD (i+1) 0%16,N.getD (i+2) 0%256,N.getD (i+3) 0%4096,N.getD (i+4) 0%2,N.getD (i+5) 0%16384]
def Qah(N:List Int):List Int:=vo N 0++vo N 6
def Qx(k:Int):List Int→List Int
 | [p,v,r,c,f,w] =>
   [p,if (r>0∧v>0)∧w+k≥r*64 then v-1 else v,r,if p>0 then (if c+k≥p then 0 else c+k) else c,if p>0∧c+k≥p then 1-f else f,
     if r>0∧v>0 then (if w+k≥r*64 then 0 else w+k) else w]
 |l=>l
def Qg:List Int→Int
 | [p,v,r,c,f,w]=>min (if p>0 then max 1 (p-c)-1 else 100000) (if r>0∧v>0 then max 1 (r*64-w)-1 else 100000)
 |_=>100000
inductive vOk:List Int→Prop
 |mk {p v r c f w:Int} (hp:0≤p∧p<4096) (hv:0≤v∧v<16) (hr:0≤r∧r<256) (hc:0≤c∧c<4096) (hf:0≤f∧f<2) (hw:0≤w∧w<16384):vOk [p,v,r,c,f,w]
theorem Qaf(N:List Int)(i:Nat):vOk (vo N i):=⟨by omega,by omega,by omega,by omega,by omega,by omega⟩
theorem vOk.len{l:List Int}(h:vOk l):l.length=6:=by cases h;rfl
theorem QtS{l:List Int}(h:vOk l):vo l 0=l:=by
 cases h with
 |mk hp hv hr hc hf hw =>
  rename_i p v r c f w;show[p%4096,v%16,r%256,c%4096,f%2,w%16384]=_;rw[Int.emod_eq_of_lt hp.1 hp.2,Int.emod_eq_of_lt hv.1 hv.2,Int.emod_eq_of_lt hr.1 hr.2,Int.emod_eq_of_lt hc.1 hc.2,Int.emod_eq_of_lt hf.1 hf.2,Int.emod_eq_of_lt hw.1 hw.2]
theorem QEZ{a b:List Int}(h:a.length=6):vo (a++b) 6=vo b 0:=by
 have e:∀j,(a++b).getD (6+j) 0=b.getD j 0:=by
  intro j;simp only[List.getD_eq_getElem?_getD];rw[List.getElem?_append_right (by omega)];have:6+j-a.length=j:=by omega
  rw[this]
 unfold vo
 rw[show(a++b).getD 6 0=b.getD 0 0 from e 0,show(a++b).getD (6+1) 0=b.getD 1 0 from e 1,show(a++b).getD (6+2) 0=b.getD 2 0 from e 2,show(a++b).getD (6+3) 0=b.getD 3 0 from e 3,
  show(a++b).getD (6+4) 0=b.getD 4 0 from e 4,show(a++b).getD (6+5) 0=b.getD 5 0 from e 5]
theorem QE0{a b:List Int}(h:vOk a):vo (a++b) 0=vo a 0:=by cases h;rfl
theorem Qpe{a b:List Int}(ha:vOk a)(hb:vOk b):Qah (a++b)=a++b:=by
 rw[Qah,QE0 ha,QEZ ha.len,QtS ha,QtS hb]
theorem QbO{l:List Int}(h:vOk l){k:Int}(hk:0≤k):vOk (Qx k l):=by
 cases h with
 |mk hp hv hr hc hf hw =>
  refine⟨hp,?_,hr,?_,?_,?_⟩
  ·split<;>omega
  ·split
   ·split<;>omega
   ·exact hc
  ·split<;>omega
  ·split
   ·split<;>omega
   ·exact hw
theorem QlY(k:Int)(l:List Int):(Qx k l).length=l.length:=by
 unfold Qx;split<;>rfl
theorem l6{a b c d e f a' b' c' d' e' f':Int}(h1:a=a')(h2:b=b')(h3:c=c')(h4:d=d')(h5:e=e')(h6:f=f'):[a,b,c,d,e,f]=[a',b',c',d',e',f']:=by rw[h1,h2,h3,h4,h5,h6]
theorem QtT{l:List Int}(h:vOk l){j:Int}(hj:0<j)(hq:j≤Qg l):Qx 1 (Qx j l)=Qx (j+1) l:=by
 cases h with
 |mk hp hv hr hc hf hw =>
  rename_i p v r c f w;have e1:Qg [p,v,r,c,f,w]=min (if p>0 then max 1 (p-c)-1 else 100000) (if r>0∧v>0 then max 1 (r*64-w)-1 else 100000):=rfl;rw[e1] at hq;have q1:p>0→¬c+j≥p:=fun h=>by rw[if_pos h] at hq;omega
  have q2:r>0∧v>0→¬w+j≥r*64:=fun h=>by rw[if_pos h] at hq;omega
  have e2:Qx j [p,v,r,c,f,w]=[p,v,r,if p>0 then c+j else c,f,if r>0∧v>0 then w+j else w]:=by
   refine l6 rfl ?_ rfl ?_ ?_ ?_
   ·exact if_neg fun h=>q2 h.1 h.2
   ·by_cases h:p>0
    ·rw[if_pos h,if_pos h,if_neg (q1 h)]
    ·rw[if_neg h,if_neg h]
   ·exact if_neg fun h=>q1 h.1 h.2
   ·by_cases h:r>0∧v>0
    ·rw[if_pos h,if_pos h,if_neg (q2 h)]
    ·rw[if_neg h,if_neg h]
  rw[e2];by_cases g1:p>0
  ·rw[if_pos g1];by_cases g2:r>0∧v>0
   ·rw[if_pos g2];refine l6 rfl ?_ rfl ?_ ?_ ?_<;>simp only[g1,g2,and_self,true_and,if_true,Int.add_assoc]
   ·rw[if_neg g2];refine l6 rfl ?_ rfl ?_ ?_ ?_<;>simp only[g1,g2,false_and,true_and,if_true,if_false,Int.add_assoc]
  ·rw[if_neg g1];by_cases g2:r>0∧v>0
   ·rw[if_pos g2];refine l6 rfl ?_ rfl ?_ ?_ ?_<;>simp only[g1,g2,and_self,false_and,true_and,if_true,if_false,Int.add_assoc]
   ·rw[if_neg g2];refine l6 rfl ?_ rfl ?_ ?_ ?_<;>simp only[g1,g2,false_and,if_false]
theorem Qjd{l:List Int}(h:vOk l)(hq:Qg l=100000)(k:Int):Qx k l=l:=by
 cases h with
 |mk hp hv hr hc hf hw =>
  rename_i p v r c f w;have e1:Qg [p,v,r,c,f,w]=min (if p>0 then max 1 (p-c)-1 else 100000) (if r>0∧v>0 then max 1 (r*64-w)-1 else 100000):=rfl;rw[e1] at hq;have g1:¬p>0:=fun h=>by rw[if_pos h] at hq;omega
  have g2:¬(r>0∧v>0):=fun h=>by rw[if_pos h] at hq;omega
  refine l6 rfl ?_ rfl ?_ ?_ ?_
  ·exact if_neg fun h=>g2 h.1
  ·exact if_neg g1
  ·exact if_neg fun h=>g1 h.1
  ·exact if_neg g2
theorem Qc8{l:List Int}(h:vOk l):0≤Qg l∧Qg l≤100000:=by
 cases h with
 |mk hp hv hr hc hf hw =>
  rename_i p v r c f w;have e1:Qg [p,v,r,c,f,w]=min (if p>0 then max 1 (p-c)-1 else 100000) (if r>0∧v>0 then max 1 (r*64-w)-1 else 100000):=rfl;rw[e1];by_cases g1:p>0<;>by_cases g2:r>0∧v>0<;>simp only[g1,g2,and_self,if_true,if_false]<;>omega
theorem QfG{l:List Int}(h:vOk l):∀n,vOk (Qq (Qx 1) n l)
 |0=>h
 |n+1=>by rw[QR];exact QbO (QfG h n) (by decide)
theorem QhY{l:List Int}(h:vOk l):∀n:Nat,0<n→(n:Int)≤Qg l+1→Qq (Qx 1) n l=Qx n l
 |1,_,_=>rfl
 |n+2,_,hq=>by
  rw[QR,QhY h (n+1) (by omega) (by omega),QtT h (by omega) (by omega)];rfl
theorem Qq7{l:List Int}(h:vOk l)(hq:Qg l=100000)(n:Nat):Qq (Qx 1) n l=l:=QhG (Qjd h hq 1) n
theorem QbW{a:List Int}(h:vOk a){r:Int}(hr:0<r)(hq:Qg a≥r∨Qg a=100000):Qx r a=Qq (Qx 1) r.toNat a:=by
 rcases hq with hq|hq
 ·rw[QhY h r.toNat (by omega) (by omega)];have e:((r.toNat:Nat):Int)=r:=by omega
  rw[e]
 ·rw[Qq7 h hq,Qjd h hq]
theorem Qen{a:List Int}(h:vOk a){r:Int}(hq:Qg a<r):Qq (Qx 1) (r-(Qg a+1)).toNat (Qx (Qg a+1) a)=Qq (Qx 1) r.toNat a:=by
 have hq0:=Qc8 h;have e:r.toNat=(Qg a+1).toNat+(r-(Qg a+1)).toNat:=by omega
 rw[e,Qfw,QhY h (Qg a+1).toNat (by omega) (by omega)];have e2:(((Qg a+1).toNat:Nat):Int)=Qg a+1:=by omega
 rw[e2]
theorem QLM{a b:List Int}(h:a.length=6):((a++b).drop 0).take 6=a:=List.take_left' h
theorem QIT{a b:List Int}(h:a.length=6)(h2:b.length=6):((a++b).drop 6).take 6=b:=by rw[List.drop_left' h];exact List.take_of_length_le (by omega)
theorem Qnq{x:Blk}{l l':List Int}(h:l=l'):[some x,some (Blk.arr (.int .i64) l)]=[some x,some (Blk.arr (.int .i64) l')]:=by rw[h]
def Qb1(off:Nat)(l:List Int)(k:Int):List Int:=l.take off++(Qx k ((l.drop off).take 6)++l.drop (off+6))
theorem QtU{a b:List Int}(h:a.length=6)(k:Int):Qb1 0 (a++b) k=Qx k a++b:=by
 unfold Qb1;simp[←h]
theorem QhZ{a b:List Int}(h:a.length=6)(h2:b.length=6)(k:Int):Qb1 6 (a++b) k=a++Qx k b:=by
 unfold Qb1;rw[List.take_left' h,List.drop_left' h,List.take_of_length_le (by omega),List.drop_eq_nil_of_le (by simp[h,h2]),List.append_nil]
def QaO(l:List Int):List Int:=Qx 1 (l.take 6)++Qx 1 (l.drop 6)
theorem Qh0{a b:List Int}(h:a.length=6):QaO (a++b)=Qx 1 a++Qx 1 b:=by unfold QaO;simp[←h]
theorem Qh1{a b:List Int}(ha:vOk a)(hb:vOk b):∀n,Qq QaO n (a++b)=Qq (Qx 1) n a++Qq (Qx 1) n b
 |0=>rfl
 |n+1=>by rw[QR,Qh1 ha hb n,Qh0 (QfG ha n).len,QR,QR]
def QE1:PSpec:=⟨[gD],fun(d,_)=>(none,.cell (.own 0),[.arr (.int .i64) (Qah d.1)])⟩
theorem Qdx:G0 225 QE1.spec:=by
 have hP:S0 _:=Qa QN (Qb (T:=tree));have hT:=tabs hP Qc;refine QE1.gd hT hP Tryz.func225 fun(d:Dv) _=>?_
 obtain⟨N,M⟩:=d
 repeat' first|(apply Ea;conv=>whnf)|apply Eb|apply Ec<;>intro _|apply Ed<;>intro _|apply Ee<;>intro _|refine QX 7 ?_|apply Eg hT hP
 all_goals first
  |exact of_decide_eq_true rfl
  |exact .k [] [1] _ R R
def QE2:PSpec:=⟨[],fun _=>(none,Qfb,[.arr (.int .i64) (List.replicate 12 0)])⟩
theorem QCi:G0 114 QE2.spec:=by
 have hP:S0 _:=(Qb (T:=tree))
 have hT:=tabs hP Qc;refine QE2.gd hT hP Tryz.func114 fun _=>?_
 repeat' first|(apply Ea;conv=>whnf)|apply Eb|apply Ec<;>intro _|apply Ed<;>intro _|apply Ee<;>intro _|apply Ef hT hP|apply Eg hT hP
 all_goals first
  |exact of_decide_eq_true rfl
  |exact .k [] [1] _ R R
def QAm:PSpec:=⟨[gl],fun(l,_)=>(some (vOk l),I (Qg l),[])⟩
theorem Qpf:G0 226 QAm.spec:=by
 have hP:S0 _:=(Qb (T:=tree))
 have hT:=tabs hP Qc;refine QAm.gd hT hP Tryz.func226 fun(l:List Int) hq=>?_
 have hp:vOk l:=hq _ rfl;cases hp with
 |mk hp hv hr hc hf hw =>
 rename_i p v r c f w;have e1:Qg [p,v,r,c,f,w]=min (if p>0 then max 1 (p-c)-1 else 100000) (if r>0∧v>0 then max 1 (r*64-w)-1 else 100000):=rfl
 repeat' first|(apply Ea;conv=>whnf)|apply Eb|apply Ec<;>intro _|apply Ed<;>intro _|apply Ee<;>intro _|apply Ef hT hP|apply Eg hT hP
 all_goals first
  |exact of_decide_eq_true rfl
  |skip
 all_goals
  refine .k [] [] _ rfl (Qd ?_);show _=Qg [p,v,r,c,f,w];rw[e1];have ew1:i64.wrap (p-c)=p-c:=w64 (by omega) (by omega);have ew2:i64.wrap (r*64)=r*64:=w64 (by omega) (by omega);have ew3:i64.wrap (r*64-w)=r*64-w:=w64 (by omega) (by omega);have ew4:i64.wrap (max 1 (p-c)-1)=max 1 (p-c)-1:=w64 (by omega) (by omega);have ew5:i64.wrap (max 1 (r*64-w)-1)=max 1 (r*64-w)-1:=w64 (by omega) (by omega);clear hT hP hq;simp[ew1,ew2,ew3,ew4,ew5,QT,QU] at *
  first|omega|(simp[*];done)|(simp[*];omega)
def QCj:WSpec:=⟨Nat×List Int×Int,fun x=>[.c (.sub 0 x.1 6),.c (iv .i64 x.2.2)],fun x=>[.arr (.int .i64) x.2.1],
 fun a b=>(match a,b with| [.c (.sub 0 off 6),.c (.imm (.int .i64 k))],[.arr (.int .i64) l]=>some (off,l,k)|_,_=>none),
 fun x=>(some ((x.1=0∨x.1=6)∧(∃a b,x.2.1=a++b∧vOk a∧vOk b)∧0≤x.2.2∧x.2.2≤10000000),.tup [],[some (.arr (.int .i64) (Qb1 x.1 x.2.1 x.2.2))],[])⟩
theorem QCk:G0 229 QCj.spec:=by
 have hP:S0 _:=(Qb (T:=tree))
 have hT:=tabs hP Qc;refine QCj.gd hT hP Tryz.func229 ?_ fun((off,l,k):Nat×List Int×Int) hq=>?_
 ·intro a b x h;simp only[QCj] at h;split at h
  ·injection h with h;subst h;exact⟨rfl,rfl⟩
  ·cases h
 obtain⟨ho,⟨a,b,hl,ha,hb⟩,hk0,hk1⟩:(off=0∨off=6)∧(∃a b,l=a++b∧vOk a∧vOk b)∧0≤k∧k≤10000000:=hq _ rfl;rcases ho with rfl|rfl
 ·cases ha with
  |mk hp hv hr hc hf hw =>
  cases hb with
  |mk hp' hv' hr' hc' hf' hw' =>
  obtain rfl:=hl;rename_i p v r c f w p' v' r' c' f' w'
  repeat' first|(apply Ea;conv=>whnf)|apply Eb|apply Ec<;>intro _|apply Ed<;>intro _|apply Ee<;>intro _|apply Ef hT hP|apply Eg hT hP
  all_goals first
   |exact of_decide_eq_true rfl
   |skip
  all_goals
   refine .mk [] [0] _ R R R R R (Ql ?_) rfl;have ew1:i64.wrap (c+k)=c+k:=w64 (by omega) (by omega);have ew2:i64.wrap (1-f)=1-f:=w64 (by omega) (by omega);have ew3:i64.wrap (w+k)=w+k:=w64 (by omega) (by omega);have ew4:i64.wrap (r*64)=r*64:=w64 (by omega) (by omega);have ew5:i64.wrap (v-1)=v-1:=w64 (by omega) (by omega);clear hT hP hq;simp[ew1,ew2,ew3,ew4,ew5] at *
   try simp[Qb1,Qx, *]
  all_goals(repeat' first|refine And.intro ?_ ?_|intro _)
  all_goals first|omega|(exfalso;omega)
 ·cases ha with
  |mk hp hv hr hc hf hw =>
  cases hb with
  |mk hp' hv' hr' hc' hf' hw' =>
  obtain rfl:=hl;rename_i p' v' r' c' f' w' p v r c f w
  repeat' first|(apply Ea;conv=>whnf)|apply Eb|apply Ec<;>intro _|apply Ed<;>intro _|apply Ee<;>intro _|apply Ef hT hP|apply Eg hT hP
  all_goals first
   |exact of_decide_eq_true rfl
   |skip
  all_goals
   refine .mk [] [0] _ R R R R R (Ql ?_) rfl;have ew1:i64.wrap (c+k)=c+k:=w64 (by omega) (by omega);have ew2:i64.wrap (1-f)=1-f:=w64 (by omega) (by omega);have ew3:i64.wrap (w+k)=w+k:=w64 (by omega) (by omega);have ew4:i64.wrap (r*64)=r*64:=w64 (by omega) (by omega);have ew5:i64.wrap (v-1)=v-1:=w64 (by omega) (by omega);clear hT hP hq;simp[ew1,ew2,ew3,ew4,ew5] at *
   try simp[Qb1,Qx, *]
  all_goals(repeat' first|refine And.intro ?_ ?_|intro _)
  all_goals first|omega|(exfalso;omega)
end Go.Proofs.YtofgbclopbmlcaaGreat

