/- Part 18 of the proof. Conditions: none. -/
import Derived.Test.YtofgbclopbmlcaaGreatG16
namespace Go.Proofs.YtofgbclopbmlcaaGreat
set_option maxHeartbeats 4000000
open Go.Fw
set_option linter.unusedVariables false
set_option linter.unusedSimpArgs false
set_option linter.constructorNameAsVariable false
set_option maxRecDepth 100000
theorem Qv8:G0 199 (QI 9).spec:=by
 have a:S0 _:=Qa Qq (Qa QG (Qb (T:=tree)));have b:=tabs a Qc;refine(QI 9).gd b a Tryz.func199 fun(s:Stp) c=>?_
 obtain⟨sd,st,sf,sn⟩:=s;have d:sd=9:=c _ rfl;clear c;subst d
 repeat' first|(apply Ea;conv=>whnf)|apply Eb|apply Ec|apply Ed|apply Ee|(apply Ei;intro _)|apply Ef b a
 all_goals clear b a
 all_goals(refine .k [] [] _ rfl (Qd ?_))
 all_goals(show _=Q3 (9,st,sf,sn))
 all_goals(simp[Q3,QbT,QeB,Qfi,QeM,Qaa,QV] at *)
 all_goals first
  |omega
  |(simp_all;done)
  |(simp_all;omega)
  |(refine⟨by omega,by omega,?_,by omega,by omega⟩;rw[YI];simp;omega)
  |skip
theorem Qr6:G0 199 (QI 10).spec:=by
 have a:S0 _:=Qa Qq (Qa QG (Qb (T:=tree)));have b:=tabs a Qc;refine(QI 10).gd b a Tryz.func199 fun(s:Stp) c=>?_
 obtain⟨sd,st,sf,sn⟩:=s;have d:sd=10:=c _ rfl;clear c;subst d
 repeat' first|(apply Ea;conv=>whnf)|apply Eb|apply Ec|apply Ed|apply Ee|(apply Ei;intro _)|apply Ef b a
 all_goals clear b a
 all_goals(refine .k [] [] _ rfl (Qd ?_))
 all_goals(show _=Q3 (10,st,sf,sn))
 all_goals(simp[Q3,QbT,QeB,Qfi,QeM,Qaa,QV] at *)
 all_goals first
  |omega
  |(simp_all;done)
  |(simp_all;omega)
  |(refine⟨by omega,by omega,?_,by omega,by omega⟩;rw[YI];simp;omega)
  |skip
theorem Qr7:G0 199 (QI 11).spec:=by
 have a:S0 _:=Qa Qq (Qa QG (Qb (T:=tree)));have b:=tabs a Qc;refine(QI 11).gd b a Tryz.func199 fun(s:Stp) c=>?_
 obtain⟨sd,st,sf,sn⟩:=s;have d:sd=11:=c _ rfl;clear c;subst d
 repeat' first|(apply Ea;conv=>whnf)|apply Eb|apply Ec|apply Ed|apply Ee|(apply Ei;intro _)|apply Ef b a
 all_goals clear b a
 all_goals(refine .k [] [] _ rfl (Qd ?_))
 all_goals(show _=Q3 (11,st,sf,sn))
 all_goals(simp[Q3,QbT,QeB,Qfi,QeM,Qaa,QV] at *)
 all_goals first
  |omega
  |(simp_all;done)
  |(simp_all;omega)
  |(refine⟨by omega,by omega,?_,by omega,by omega⟩;rw[YI];simp;omega)
  |skip
theorem Qr8:G0 199 (QI 12).spec:=by
 have a:S0 _:=Qa Qq (Qa QG (Qb (T:=tree)));have b:=tabs a Qc;refine(QI 12).gd b a Tryz.func199 fun(s:Stp) c=>?_
 obtain⟨sd,st,sf,sn⟩:=s;have d:sd=12:=c _ rfl;clear c;subst d
 repeat' first|(apply Ea;conv=>whnf)|apply Eb|apply Ec|apply Ed|apply Ee|(apply Ei;intro _)|apply Ef b a
 all_goals clear b a
 all_goals(refine .k [] [] _ rfl (Qd ?_))
 all_goals(show _=Q3 (12,st,sf,sn))
 all_goals(simp[Q3,QbT,QeB,Qfi,QeM,Qaa,QV] at *)
 all_goals first
  |omega
  |(simp_all;done)
  |(simp_all;omega)
  |(refine⟨by omega,by omega,?_,by omega,by omega⟩;rw[YI];simp;omega)
  |skip
theorem Qr9:G0 199 (QI 13).spec:=by
 have a:S0 _:=Qa Qq (Qa QG (Qb (T:=tree)));have b:=tabs a Qc;refine(QI 13).gd b a Tryz.func199 fun(s:Stp) c=>?_
 obtain⟨sd,st,sf,sn⟩:=s;have d:sd=13:=c _ rfl;clear c;subst d
 repeat' first|(apply Ea;conv=>whnf)|apply Eb|apply Ec|apply Ed|apply Ee|(apply Ei;intro _)|apply Ef b a
 all_goals clear b a
 all_goals(refine .k [] [] _ rfl (Qd ?_))
 all_goals(show _=Q3 (13,st,sf,sn))
 all_goals(simp[Q3,QbT,QeB,Qfi,QeM,Qaa,QV] at *)
 all_goals first
  |omega
  |(simp_all;done)
  |(simp_all;omega)
  |(refine⟨by omega,by omega,?_,by omega,by omega⟩;rw[YI];simp;omega)
  |skip
theorem Qsa:G0 199 (QI 14).spec:=by
 have a:S0 _:=Qa Qq (Qa QG (Qb (T:=tree)));have b:=tabs a Qc;refine(QI 14).gd b a Tryz.func199 fun(s:Stp) c=>?_
 obtain⟨sd,st,sf,sn⟩:=s;have d:sd=14:=c _ rfl;clear c;subst d
 repeat' first|(apply Ea;conv=>whnf)|apply Eb|apply Ec|apply Ed|apply Ee|(apply Ei;intro _)|apply Ef b a
 all_goals clear b a
 all_goals(refine .k [] [] _ rfl (Qd ?_))
 all_goals(show _=Q3 (14,st,sf,sn))
 all_goals(simp[Q3,QbT,QeB,Qfi,QeM,Qaa,QV] at *)
 all_goals first
  |omega
  |(simp_all;done)
  |(simp_all;omega)
  |(refine⟨by omega,by omega,?_,by omega,by omega⟩;rw[YI];simp;omega)
  |skip
theorem Qsb:G0 199 (QI 15).spec:=by
 have a:S0 _:=Qa Qq (Qa QG (Qb (T:=tree)));have b:=tabs a Qc;refine(QI 15).gd b a Tryz.func199 fun(s:Stp) c=>?_
 obtain⟨sd,st,sf,sn⟩:=s;have d:sd=15:=c _ rfl;clear c;subst d
 repeat' first|(apply Ea;conv=>whnf)|apply Eb|apply Ec|apply Ed|apply Ee|(apply Ei;intro _)|apply Ef b a
 all_goals clear b a
 all_goals(refine .k [] [] _ rfl (Qd ?_))
 all_goals(show _=Q3 (15,st,sf,sn))
 all_goals(simp[Q3,QbT,QeB,Qfi,QeM,Qaa,QV] at *)
 all_goals first
  |omega
  |(simp_all;done)
  |(simp_all;omega)
  |(refine⟨by omega,by omega,?_,by omega,by omega⟩;rw[YI];simp;omega)
  |skip
theorem Qsc:G0 199 (QI 16).spec:=by
 have a:S0 _:=Qa Qq (Qa QG (Qb (T:=tree)));have b:=tabs a Qc;refine(QI 16).gd b a Tryz.func199 fun(s:Stp) c=>?_
 obtain⟨sd,st,sf,sn⟩:=s;have d:sd=16:=c _ rfl;clear c;subst d
 repeat' first|(apply Ea;conv=>whnf)|apply Eb|apply Ec|apply Ed|apply Ee|(apply Ei;intro _)|apply Ef b a
 all_goals clear b a
 all_goals(refine .k [] [] _ rfl (Qd ?_))
 all_goals(show _=Q3 (16,st,sf,sn))
 all_goals(simp[Q3,QbT,QeB,Qfi,QeM,Qaa,QV] at *)
 all_goals first
  |omega
  |(simp_all;done)
  |(simp_all;omega)
  |(refine⟨by omega,by omega,?_,by omega,by omega⟩;rw[YI];simp;omega)
  |skip
theorem Qsd:G0 199 (QI 17).spec:=by
 have a:S0 _:=Qa Qq (Qa QG (Qb (T:=tree)));have b:=tabs a Qc;refine(QI 17).gd b a Tryz.func199 fun(s:Stp) c=>?_
 obtain⟨sd,st,sf,sn⟩:=s;have d:sd=17:=c _ rfl;clear c;subst d
 repeat' first|(apply Ea;conv=>whnf)|apply Eb|apply Ec|apply Ed|apply Ee|(apply Ei;intro _)|apply Ef b a
 all_goals clear b a
 all_goals(refine .k [] [] _ rfl (Qd ?_))
 all_goals(show _=Q3 (17,st,sf,sn))
 all_goals(simp[Q3,QbT,QeB,Qfi,QeM,Qaa,QV] at *)
 all_goals first
  |omega
  |(simp_all;done)
  |(simp_all;omega)
  |(refine⟨by omega,by omega,?_,by omega,by omega⟩;rw[YI];simp;omega)
  |skip
end Go.Proofs.YtofgbclopbmlcaaGreat

