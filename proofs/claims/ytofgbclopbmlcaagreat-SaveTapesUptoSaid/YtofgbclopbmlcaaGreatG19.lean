/- Part 19 of the proof. Conditions: none. -/
import Derived.Test.YtofgbclopbmlcaaGreatG16
namespace Go.Proofs.YtofgbclopbmlcaaGreat
set_option maxHeartbeats 4000000
open Go.Fw
set_option linter.unusedVariables false
set_option linter.unusedSimpArgs false
set_option linter.constructorNameAsVariable false
set_option maxRecDepth 100000
theorem Qse:G0 199 (QI 18).spec:=by
 have a:S0 _:=Qa Qq (Qa QG (Qb (T:=tree)));have b:=tabs a Qc;refine(QI 18).gd b a Tryz.func199 fun(s:Stp) c=>?_
 obtain⟨sd,st,sf,sn⟩:=s;have d:sd=18:=c _ rfl;clear c;subst d
 repeat' first|(apply Ea;conv=>whnf)|apply Eb|apply Ec|apply Ed|apply Ee|(apply Ei;intro _)|apply Ef b a
 all_goals clear b a
 all_goals(refine .k [] [] _ rfl (Qd ?_))
 all_goals(show _=Q3 (18,st,sf,sn))
 all_goals(simp[Q3,QbT,QeB,Qfi,QeM,Qaa,QV] at *)
 all_goals first
  |omega
  |(simp_all;done)
  |(simp_all;omega)
  |(refine⟨by omega,by omega,?_,by omega,by omega⟩;rw[YI];simp;omega)
  |skip
theorem Qsf:G0 199 (QI 19).spec:=by
 have a:S0 _:=Qa Qq (Qa QG (Qb (T:=tree)));have b:=tabs a Qc;refine(QI 19).gd b a Tryz.func199 fun(s:Stp) c=>?_
 obtain⟨sd,st,sf,sn⟩:=s;have d:sd=19:=c _ rfl;clear c;subst d
 repeat' first|(apply Ea;conv=>whnf)|apply Eb|apply Ec|apply Ed|apply Ee|(apply Ei;intro _)|apply Ef b a
 all_goals clear b a
 all_goals(refine .k [] [] _ rfl (Qd ?_))
 all_goals(show _=Q3 (19,st,sf,sn))
 all_goals(simp[Q3,QbT,QeB,Qfi,QeM,Qaa,QV] at *)
 all_goals first
  |omega
  |(simp_all;done)
  |(simp_all;omega)
  |(refine⟨by omega,by omega,?_,by omega,by omega⟩;rw[YI];simp;omega)
  |skip
theorem Qsg:G0 199 (QI 20).spec:=by
 have a:S0 _:=Qa Qq (Qa QG (Qb (T:=tree)));have b:=tabs a Qc;refine(QI 20).gd b a Tryz.func199 fun(s:Stp) c=>?_
 obtain⟨sd,st,sf,sn⟩:=s;have d:sd=20:=c _ rfl;clear c;subst d
 repeat' first|(apply Ea;conv=>whnf)|apply Eb|apply Ec|apply Ed|apply Ee|(apply Ei;intro _)|apply Ef b a
 all_goals clear b a
 all_goals(refine .k [] [] _ rfl (Qd ?_))
 all_goals(show _=Q3 (20,st,sf,sn))
 all_goals(simp[Q3,QbT,QeB,Qfi,QeM,Qaa,QV] at *)
 all_goals first
  |omega
  |(simp_all;done)
  |(simp_all;omega)
  |(refine⟨by omega,by omega,?_,by omega,by omega⟩;rw[YI];simp;omega)
  |skip
theorem Qsh:G0 199 (QI 21).spec:=by
 have a:S0 _:=Qa Qq (Qa QG (Qb (T:=tree)));have b:=tabs a Qc;refine(QI 21).gd b a Tryz.func199 fun(s:Stp) c=>?_
 obtain⟨sd,st,sf,sn⟩:=s;have d:sd=21:=c _ rfl;clear c;subst d
 repeat' first|(apply Ea;conv=>whnf)|apply Eb|apply Ec|apply Ed|apply Ee|(apply Ei;intro _)|apply Ef b a
 all_goals clear b a
 all_goals(refine .k [] [] _ rfl (Qd ?_))
 all_goals(show _=Q3 (21,st,sf,sn))
 all_goals(simp[Q3,QbT,QeB,Qfi,QeM,Qaa,QV] at *)
 all_goals first
  |omega
  |(simp_all;done)
  |(simp_all;omega)
  |(refine⟨by omega,by omega,?_,by omega,by omega⟩;rw[YI];simp;omega)
  |skip
theorem Qsi:G0 199 (QI 22).spec:=by
 have a:S0 _:=Qa Qq (Qa QG (Qb (T:=tree)));have b:=tabs a Qc;refine(QI 22).gd b a Tryz.func199 fun(s:Stp) c=>?_
 obtain⟨sd,st,sf,sn⟩:=s;have d:sd=22:=c _ rfl;clear c;subst d
 repeat' first|(apply Ea;conv=>whnf)|apply Eb|apply Ec|apply Ed|apply Ee|(apply Ei;intro _)|apply Ef b a
 all_goals clear b a
 all_goals(refine .k [] [] _ rfl (Qd ?_))
 all_goals(show _=Q3 (22,st,sf,sn))
 all_goals(simp[Q3,QbT,QeB,Qfi,QeM,Qaa,QV] at *)
 all_goals first
  |omega
  |(simp_all;done)
  |(simp_all;omega)
  |(refine⟨by omega,by omega,?_,by omega,by omega⟩;rw[YI];simp;omega)
  |skip
theorem Qsj:G0 199 (QI 23).spec:=by
 have a:S0 _:=Qa Qq (Qa QG (Qb (T:=tree)));have b:=tabs a Qc;refine(QI 23).gd b a Tryz.func199 fun(s:Stp) c=>?_
 obtain⟨sd,st,sf,sn⟩:=s;have d:sd=23:=c _ rfl;clear c;subst d
 repeat' first|(apply Ea;conv=>whnf)|apply Eb|apply Ec|apply Ed|apply Ee|(apply Ei;intro _)|apply Ef b a
 all_goals clear b a
 all_goals(refine .k [] [] _ rfl (Qd ?_))
 all_goals(show _=Q3 (23,st,sf,sn))
 all_goals(simp[Q3,QbT,QeB,Qfi,QeM,Qaa,QV] at *)
 all_goals first
  |omega
  |(simp_all;done)
  |(simp_all;omega)
  |(refine⟨by omega,by omega,?_,by omega,by omega⟩;rw[YI];simp;omega)
  |skip
theorem Qsk:G0 199 (QI 24).spec:=by
 have a:S0 _:=Qa Qq (Qa QG (Qb (T:=tree)));have b:=tabs a Qc;refine(QI 24).gd b a Tryz.func199 fun(s:Stp) c=>?_
 obtain⟨sd,st,sf,sn⟩:=s;have d:sd=24:=c _ rfl;clear c;subst d
 repeat' first|(apply Ea;conv=>whnf)|apply Eb|apply Ec|apply Ed|apply Ee|(apply Ei;intro _)|apply Ef b a
 all_goals clear b a
 all_goals(refine .k [] [] _ rfl (Qd ?_))
 all_goals(show _=Q3 (24,st,sf,sn))
 all_goals(simp[Q3,QbT,QeB,Qfi,QeM,Qaa,QV] at *)
 all_goals first
  |omega
  |(simp_all;done)
  |(simp_all;omega)
  |(refine⟨by omega,by omega,?_,by omega,by omega⟩;rw[YI];simp;omega)
  |skip
theorem QmD:G0 199 QvY.spec:=by
 have a:S0 _:=Qa Qq (Qa QG (Qb (T:=tree)));have b:=tabs a Qc;refine QvY.gd b a Tryz.func199 fun(s:Stp) c=>?_
 obtain⟨sd,st,sf,sn⟩:=s;have hx:sd<0∨sd>24:=c _ rfl;clear c
 repeat' first|(exfalso;rename_i g h;exact QK1 hx g h)|(apply Ea;conv=>whnf)|apply Eb|apply Ec|apply Ed|apply Ee|(apply Ei;intro _)|apply Ef b a
 all_goals clear b a
 all_goals(refine .k [] [] _ rfl (Qd ?_))
 all_goals(show 8=Q3 (sd,st,sf,sn);unfold Q3)
 all_goals(rw[Yf];show sd<0∨sd≥25;omega)
end Go.Proofs.YtofgbclopbmlcaaGreat

