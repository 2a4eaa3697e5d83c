/- Part 17 of the proof. Conditions: none. -/
import Derived.Test.YtofgbclopbmlcaaGreatG16
namespace Go.Proofs.YtofgbclopbmlcaaGreat
set_option maxHeartbeats 4000000
open Go.Fw
set_option linter.unusedVariables false
set_option linter.unusedSimpArgs false
set_option linter.constructorNameAsVariable false
set_option maxRecDepth 100000
theorem QvZ:G0 199 (QI 0).spec:=by
 have a:S0 _:=Qa Qq (Qa QG (Qb (T:=tree)));have b:=tabs a Qc;refine(QI 0).gd b a Tryz.func199 fun(s:Stp) c=>?_
 obtain⟨sd,st,sf,sn⟩:=s;have d:sd=0:=c _ rfl;clear c;subst d
 repeat' first|(apply Ea;conv=>whnf)|apply Eb|apply Ec|apply Ed|apply Ee|(apply Ei;intro _)|apply Ef b a
 all_goals clear b a
 all_goals(refine .k [] [] _ rfl (Qd ?_))
 all_goals(show _=Q3 (0,st,sf,sn))
 all_goals(simp[Q3,QbT,QeB,Qfi,QeM,Qaa,QV] at *)
 all_goals first
  |omega
  |(simp_all;done)
  |(simp_all;omega)
  |(refine⟨by omega,by omega,?_,by omega,by omega⟩;rw[YI];simp;omega)
  |skip
theorem Qv0:G0 199 (QI 1).spec:=by
 have a:S0 _:=Qa Qq (Qa QG (Qb (T:=tree)));have b:=tabs a Qc;refine(QI 1).gd b a Tryz.func199 fun(s:Stp) c=>?_
 obtain⟨sd,st,sf,sn⟩:=s;have d:sd=1:=c _ rfl;clear c;subst d
 repeat' first|(apply Ea;conv=>whnf)|apply Eb|apply Ec|apply Ed|apply Ee|(apply Ei;intro _)|apply Ef b a
 all_goals clear b a
 all_goals(refine .k [] [] _ rfl (Qd ?_))
 all_goals(show _=Q3 (1,st,sf,sn))
 all_goals(simp[Q3,QbT,QeB,Qfi,QeM,Qaa,QV] at *)
 all_goals first
  |omega
  |(simp_all;done)
  |(simp_all;omega)
  |(refine⟨by omega,by omega,?_,by omega,by omega⟩;rw[YI];simp;omega)
  |skip
theorem Qv1:G0 199 (QI 2).spec:=by
 have a:S0 _:=Qa Qq (Qa QG (Qb (T:=tree)));have b:=tabs a Qc;refine(QI 2).gd b a Tryz.func199 fun(s:Stp) c=>?_
 obtain⟨sd,st,sf,sn⟩:=s;have d:sd=2:=c _ rfl;clear c;subst d
 repeat' first|(apply Ea;conv=>whnf)|apply Eb|apply Ec|apply Ed|apply Ee|(apply Ei;intro _)|apply Ef b a
 all_goals clear b a
 all_goals(refine .k [] [] _ rfl (Qd ?_))
 all_goals(show _=Q3 (2,st,sf,sn))
 all_goals(simp[Q3,QbT,QeB,Qfi,QeM,Qaa,QV] at *)
 all_goals first
  |omega
  |(simp_all;done)
  |(simp_all;omega)
  |(refine⟨by omega,by omega,?_,by omega,by omega⟩;rw[YI];simp;omega)
  |skip
theorem Qv2:G0 199 (QI 3).spec:=by
 have a:S0 _:=Qa Qq (Qa QG (Qb (T:=tree)));have b:=tabs a Qc;refine(QI 3).gd b a Tryz.func199 fun(s:Stp) c=>?_
 obtain⟨sd,st,sf,sn⟩:=s;have d:sd=3:=c _ rfl;clear c;subst d
 repeat' first|(apply Ea;conv=>whnf)|apply Eb|apply Ec|apply Ed|apply Ee|(apply Ei;intro _)|apply Ef b a
 all_goals clear b a
 all_goals(refine .k [] [] _ rfl (Qd ?_))
 all_goals(show _=Q3 (3,st,sf,sn))
 all_goals(simp[Q3,QbT,QeB,Qfi,QeM,Qaa,QV] at *)
 all_goals first
  |omega
  |(simp_all;done)
  |(simp_all;omega)
  |(refine⟨by omega,by omega,?_,by omega,by omega⟩;rw[YI];simp;omega)
  |skip
theorem Qv3:G0 199 (QI 4).spec:=by
 have a:S0 _:=Qa Qq (Qa QG (Qb (T:=tree)));have b:=tabs a Qc;refine(QI 4).gd b a Tryz.func199 fun(s:Stp) c=>?_
 obtain⟨sd,st,sf,sn⟩:=s;have d:sd=4:=c _ rfl;clear c;subst d
 repeat' first|(apply Ea;conv=>whnf)|apply Eb|apply Ec|apply Ed|apply Ee|(apply Ei;intro _)|apply Ef b a
 all_goals clear b a
 all_goals(refine .k [] [] _ rfl (Qd ?_))
 all_goals(show _=Q3 (4,st,sf,sn))
 all_goals(simp[Q3,QbT,QeB,Qfi,QeM,Qaa,QV] at *)
 all_goals first
  |omega
  |(simp_all;done)
  |(simp_all;omega)
  |(refine⟨by omega,by omega,?_,by omega,by omega⟩;rw[YI];simp;omega)
  |skip
theorem Qv4:G0 199 (QI 5).spec:=by
 have a:S0 _:=Qa Qq (Qa QG (Qb (T:=tree)));have b:=tabs a Qc;refine(QI 5).gd b a Tryz.func199 fun(s:Stp) c=>?_
 obtain⟨sd,st,sf,sn⟩:=s;have d:sd=5:=c _ rfl;clear c;subst d
 repeat' first|(apply Ea;conv=>whnf)|apply Eb|apply Ec|apply Ed|apply Ee|(apply Ei;intro _)|apply Ef b a
 all_goals clear b a
 all_goals(refine .k [] [] _ rfl (Qd ?_))
 all_goals(show _=Q3 (5,st,sf,sn))
 all_goals(simp[Q3,QbT,QeB,Qfi,QeM,Qaa,QV] at *)
 all_goals first
  |omega
  |(simp_all;done)
  |(simp_all;omega)
  |(refine⟨by omega,by omega,?_,by omega,by omega⟩;rw[YI];simp;omega)
  |skip
theorem Qv5:G0 199 (QI 6).spec:=by
 have a:S0 _:=Qa Qq (Qa QG (Qb (T:=tree)));have b:=tabs a Qc;refine(QI 6).gd b a Tryz.func199 fun(s:Stp) c=>?_
 obtain⟨sd,st,sf,sn⟩:=s;have d:sd=6:=c _ rfl;clear c;subst d
 repeat' first|(apply Ea;conv=>whnf)|apply Eb|apply Ec|apply Ed|apply Ee|(apply Ei;intro _)|apply Ef b a
 all_goals clear b a
 all_goals(refine .k [] [] _ rfl (Qd ?_))
 all_goals(show _=Q3 (6,st,sf,sn))
 all_goals(simp[Q3,QbT,QeB,Qfi,QeM,Qaa,QV] at *)
 all_goals first
  |omega
  |(simp_all;done)
  |(simp_all;omega)
  |(refine⟨by omega,by omega,?_,by omega,by omega⟩;rw[YI];simp;omega)
  |skip
theorem Qv6:G0 199 (QI 7).spec:=by
 have a:S0 _:=Qa Qq (Qa QG (Qb (T:=tree)));have b:=tabs a Qc;refine(QI 7).gd b a Tryz.func199 fun(s:Stp) c=>?_
 obtain⟨sd,st,sf,sn⟩:=s;have d:sd=7:=c _ rfl;clear c;subst d
 repeat' first|(apply Ea;conv=>whnf)|apply Eb|apply Ec|apply Ed|apply Ee|(apply Ei;intro _)|apply Ef b a
 all_goals clear b a
 all_goals(refine .k [] [] _ rfl (Qd ?_))
 all_goals(show _=Q3 (7,st,sf,sn))
 all_goals(simp[Q3,QbT,QeB,Qfi,QeM,Qaa,QV] at *)
 all_goals first
  |omega
  |(simp_all;done)
  |(simp_all;omega)
  |(refine⟨by omega,by omega,?_,by omega,by omega⟩;rw[YI];simp;omega)
  |skip
theorem Qv7:G0 199 (QI 8).spec:=by
 have a:S0 _:=Qa Qq (Qa QG (Qb (T:=tree)));have b:=tabs a Qc;refine(QI 8).gd b a Tryz.func199 fun(s:Stp) c=>?_
 obtain⟨sd,st,sf,sn⟩:=s;have d:sd=8:=c _ rfl;clear c;subst d
 repeat' first|(apply Ea;conv=>whnf)|apply Eb|apply Ec|apply Ed|apply Ee|(apply Ei;intro _)|apply Ef b a
 all_goals clear b a
 all_goals(refine .k [] [] _ rfl (Qd ?_))
 all_goals(show _=Q3 (8,st,sf,sn))
 all_goals(simp[Q3,QbT,QeB,Qfi,QeM,Qaa,QV] at *)
 all_goals first
  |omega
  |(simp_all;done)
  |(simp_all;omega)
  |(refine⟨by omega,by omega,?_,by omega,by omega⟩;rw[YI];simp;omega)
  |skip
end Go.Proofs.YtofgbclopbmlcaaGreat

