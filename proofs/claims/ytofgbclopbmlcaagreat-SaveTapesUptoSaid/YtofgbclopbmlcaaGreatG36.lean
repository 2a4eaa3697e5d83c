/- Part 36 of the proof. Conditions: none. -/
import Derived.Test.YtofgbclopbmlcaaGreatG34
namespace Go.Proofs.YtofgbclopbmlcaaGreat
open Go.Fw
set_option linter.unusedVariables false
set_option linter.unusedSimpArgs false
set_option linter.constructorNameAsVariable false
set_option maxRecDepth 100000
def Qz4:Bd:=(⟨#[98]⟩,(⟨#[99]⟩,[],[],[],[]),[(⟨#[114,97,109]⟩,0,8,4,[])],[])
def QqB:PSpec:=⟨[gBd],fun(b,_)=>(some (b=Qz4),I 0,[])⟩
theorem Qsv:G0 53 QqB.spec:=by
 have a:S0 _:=Qa QfM (Qa Qu7 (Qa Qmj (Qb (T:=tree))));have c:=tabs a Qc;refine QqB.gd c a Tryz.func53 fun(b:Bd) hq=>?_
 obtain rfl:b=Qz4:=hq _ rfl;clear hq
 repeat' first|(apply Ea;conv=>whnf)|apply Eb|apply Ec|apply Ed|apply Ee|(apply Ei;intro _)|apply Ef c a|apply Eg c a
 ·exact rfl
 refine QP 2 ?_
 repeat' first|(apply Ea;conv=>whnf)|apply Eb|apply Ec|apply Ed|apply Ee|(apply Ei;intro _)|apply Ef c a|apply Eg c a
 ·exact Ya rfl
 ·exact⟨⟨by decide,by decide⟩,⟨by decide,by decide⟩,by decide⟩
 ·rename_i h;exfalso;have h:(Q0 (⟨#[114,97,109]⟩,0,8,4,[]) != 0)=true:=h;revert h;decide +kernel
 ·exact Ya rfl
 rename_i h;clear h;refine QP 1 ?_
 repeat' first|(apply Ea;conv=>whnf)|apply Eb|apply Ec|apply Ed|apply Ee|(apply Ei;intro _)|apply Ef c a|apply Eg c a
 refine QP 1 ?_
 repeat' first|(apply Ea;conv=>whnf)|apply Eb|apply Ec|apply Ed|apply Ee|(apply Ei;intro _)|apply Ef c a|apply Eg c a
 all_goals first
  |exact Ya rfl
  |exact .k [] [] _ R R
  |skip
end Go.Proofs.YtofgbclopbmlcaaGreat

