/- Part 15 of the proof. Conditions: none. -/
import Derived.Test.YtofgbclopbmlcaaGreatG13
namespace Go.Proofs.YtofgbclopbmlcaaGreat
set_option maxHeartbeats 4000000
open Go.Fw
set_option linter.unusedVariables false
set_option linter.unusedSimpArgs false
set_option linter.constructorNameAsVariable false
set_option maxRecDepth 100000
def QeM(r:Int):Bool:=bif decide (r≥0) then decide (r<9) else false
def QHw:PSpec:=⟨[gi],fun(r,_)=>(none,.cell (bv (QeM r)),[])⟩
theorem Qn1:G0 261 QHw.spec:=by
 have a:S0 _:=(Qb (T:=tree))
 have b:=tabs a Qc;refine QHw.gd b a Tryz.func261 fun(r:Int) _=>?_
 repeat' first|(apply Ea;conv=>whnf)|apply Eb|apply Ec|apply Ed|apply Ee|(apply Ei;intro _)|apply Ef b a
 all_goals(refine .k [] [] _ rfl (Qj ?_))
 all_goals(unfold QeM;simp_all)
 all_goals omega
def QeB(d:Int):Int×Int×Bool :=
 if d=1 then (115,115,false) else if d=2 then (97,0,true) else if d=3∨d=12∨d=13∨d=14∨d=15 then (98,0,false) else if d=4∨d=5∨d=6∨d=7∨d=8∨d=9 then (98,98,false)
 else if d=10∨d=11 then (97,0,false) else if d=16∨d=17 then (0,0,true) else if d=18∨d=19∨d=22∨d=23 then (119,98,false) else if d=20∨d=21 then (98,119,false) else (0,0,false)
def QBM:PSpec:=⟨[gi],fun(d,_)=>(none,.tup [.c (.imm (.int .u8 (QeB d).1)),.c (.imm (.int .u8 (QeB d).2.1)),.c (bv (QeB d).2.2)],[])⟩
theorem QK0{x y:Int×Int×Bool}(h:x=y):AV.tup [.c (.imm (.int .u8 x.1)),.c (.imm (.int .u8 x.2.1)),.c (bv x.2.2)]=AV.tup [.c (.imm (.int .u8 y.1)),.c (.imm (.int .u8 y.2.1)),.c (bv y.2.2)]:=by rw[h]
theorem QzL:G0 270 QBM.spec:=by
 have a:S0 _:=(Qb (T:=tree))
 have b:=tabs a Qc;refine QBM.gd b a Tryz.func270 fun(d:Int) _=>?_
 repeat' first|(apply Ea;conv=>whnf)|apply Eb|apply Ec|apply Ed|apply Ee|(apply Ei;intro _)|apply Ef b a
 all_goals clear b a
 all_goals first
  |(rename_i g
    have g:d=_:=g;subst g
    exact .k [] [] _ R R)
  |skip
 refine .k [] [] _ rfl (QK0 (x:=(0,0,false)) ?_);unfold QeB
 simp_all
def Qfi(r n:Int):Bool:=if n=0 then decide (r=0) else if n=119 then (bif QeM r then Qaa r else false) else if n=98 then (bif QeM r then !Qaa r else false) else QeM r
def QBN:PSpec:=⟨[gi,⟨false,.int .u8⟩],fun(r,n,_)=>(none,.cell (bv (Qfi r n)),[])⟩
theorem QzM:G0 271 QBN.spec:=by
 have a:S0 _:=Qa Qn1 (Qa QfL (Qb (T:=tree)));have b:=tabs a Qc;refine QBN.gd b a Tryz.func271 fun(r n:Int) _=>?_
 repeat' first|(apply Ea;conv=>whnf)|apply Eb|apply Ec|apply Ed|apply Ee|(apply Ei;intro _)|apply Ef b a
 all_goals clear b a
 all_goals(refine .k [] [] _ rfl (Qj ?_))
 all_goals(show _=Qfi r n;unfold Qfi;simp_all)
 all_goals rfl
def QbT(s:Stp):Int:=if (QeB s.1).2.2=false then 0 else if s.1=2∧(QeM s.2.1=true∧Qaa s.2.1=true) then 65535 else 255
def Q3(s:Stp):Int :=
 if s.1<0∨s.1≥25 then 8 else
 if s.1=24 then (if s.2.1≠0∨s.2.2.1<0∨s.2.2.1>1∨s.2.2.2<0∨s.2.2.2>255 then 1 else 0) else
 if Qfi s.2.1 (QeB s.1).1=false∨Qfi s.2.2.1 (QeB s.1).2.1=false∨((QeB s.1).1=115∧Qaa s.2.1≠Qaa s.2.2.1)∨s.2.2.2<0∨s.2.2.2>QbT s then 1 else 0
abbrev QzN:Sig:=⟨true,Qx⟩
def QvX:PSpec:=⟨[QzN],fun(s,_)=>(none,I (Q3 s),[])⟩
theorem QzO:G0 262 QvX.spec:=by
 have a:S0 _:=Qa Qn1 (Qa QfL (Qa QzL (Qa QzM (Qb (T:=tree)))));have b:=tabs a Qc;refine QvX.gd b a Tryz.func262 fun(s:Stp) _=>?_
 obtain⟨sd,st,sf,sn⟩:=s
 repeat' first|(apply Ea;conv=>whnf)|apply Eb|apply Ec|apply Ed|apply Ee|(apply Ei;intro _)|apply Ef b a
 all_goals clear b a
 all_goals(refine .k [] [] _ rfl (Qd ?_))
 all_goals(show _=Q3 (sd,st,sf,sn);unfold Q3 QbT Qaa)
 all_goals(simp_all)
 all_goals(try omega)
 all_goals first
  |(exfalso
    have h2:(QeB 2).1=115:=by assumption
    exact YD h2 (by decide))
  |(simp_all [Qaa];done)
  |(simp_all [Qaa];omega)
end Go.Proofs.YtofgbclopbmlcaaGreat

