/- Part 33 of the proof. Conditions: none. -/
import Derived.Test.YtofgbclopbmlcaaGreatG32
import Derived.Test.YtofgbclopbmlcaaGreatG13
import Derived.Test.YtofgbclopbmlcaaGreatG21
import Derived.Test.YtofgbclopbmlcaaGreatG22
import Derived.Test.YtofgbclopbmlcaaGreatG24
namespace Go.Proofs.YtofgbclopbmlcaaGreat
set_option maxHeartbeats 2000000
open Go.Fw
set_option linter.unusedVariables false
set_option linter.unusedSimpArgs false
set_option linter.constructorNameAsVariable false
set_option maxRecDepth 100000
theorem Qsm:G0 117 Qhn.spec:=by
 have f:S0 _:=Qa Qq (Qa QzP (Qb (T:=tree)));have m:=tabs f Qc;refine Qhn.gd m f Tryz.func117 fun(l:List Cyc) _=>?_
 repeat' first|(apply Ea;conv=>whnf)|apply Eb|apply Ec|apply Ed|apply Ee|(apply Ei;intro _)|apply Ef m f
 ·rename_i g;have g:(l.length:Int)>8:=g;refine .k [] [] _ rfl (Qd ?_);exact(Yf (by omega):QB l=2).symm
 rename_i g0;have g0:¬(l.length:Int)>8:=g0;have hC:QB l=Qab QcQ l:=Yb (by omega)
 refine QA m f (A:=Unit) l.length (fun i _=>St.mk (E10 (E1 ((.cell (.ro Qp l))::(I l.length)::(I i)::E40 (E20 (E5 []))))) [])
  (fun k _=>Qab QcQ (l.drop k)=Qab QcQ l) () (Le.mk [] [] R R R ?_) rfl fun k _ z C=>?_
 ·repeat' constructor
 have w:∀c:Cyc,l.getD k (dflt Qp)=c→QcQ c≠0→k<l.length→QcQ c=QB l:=fun c e h z=>by
  rw[hC,←C,QaM (dflt Qp) z (by rw[e];exact h),e]
 have y:∀c:Cyc,l.getD k (dflt Qp)=c→QcQ c=0→k<l.length→Qab QcQ (l.drop (k+1))=Qab QcQ l:=fun c e h z=>by
  rw[←C,Qa4 (dflt Qp) z (by rw[e];exact h)]
 repeat' first|(apply Ea;conv=>whnf)|apply Eb|apply Ec|apply Ed|apply Ee|(apply Ei;intro _)|apply Ef m f
 all_goals(try dsimp only[Qf] at *)
 all_goals(generalize t:l.getD (k:Int).toNat (dflt Qp)=c at *;obtain⟨q,ca,p,cs⟩:=c)
 ·show 0≤(k:Int)∧(k:Int)<(l.length:Int);omega
 all_goals first
  |(have r:∀n:Int,n≠0→QiF (q,ca,p,cs)=n→k<l.length→n=QB l:=fun n x e z=>by
     have e2:QcQ (q,ca,p,cs)=n:=by
      unfold QcQ;rw[Yb (by rw[e];exact x)];exact e
     rw[←e2];exact w _ t (by rw[e2];exact x) z
    refine .k [] [] _ rfl (Qd (r _ (by decide) ?_ (by omega)));clear m f w y r;simp[QiF,QV] at *
    first
     |omega
     |(simp_all;done)
     |(simp_all;omega)
     |skip)
  |(have u:QiF (q,ca,p,cs)=0:=by
     clear m f w y;simp[QiF,QV] at *
     first
      |omega
      |(simp_all;done)
      |(simp_all;omega)
     done)
  |skip
 ·have x:cs.length≤6:=Qb3 u;have r:QcQ (q,ca,p,cs)=Qab Q3 cs:=Yf u;have d:k<l.length:=by omega
  refine QA m f (A:=Unit) cs.length (fun i _=>St.mk (E10 (E1 ((.cell (.ro Qp l))::(I l.length)::(I k)::E40 (E10 (E2 ((.cell (.ro Qx cs))::(I cs.length)::(I i)::E10 [])))))) [])
   (fun j _=>Qab Q3 (cs.drop j)=Qab Q3 cs) () (Le.mk [] [] R R R ?_) rfl fun j _ B a=>?_
  ·repeat' constructor
  repeat' first|(apply Ea;conv=>whnf)|apply Eb|apply Ec|apply Ed|apply Ee|(apply Ei;intro _)|apply Ef m f
  all_goals clear m f
  ·rename_i g;have g:(j:Int)<(cs.length:Int):=g;show 0≤(j:Int)∧(j:Int)<(cs.length:Int);omega
  ·rename_i g b;have g:(j:Int)<(cs.length:Int):=g;have b:(Q3 (cs.getD j (dflt Qx)) != 0)=true:=b;have s:Q3 (cs.getD j (dflt Qx))≠0:=by simpa using b
   have e:Q3 (cs.getD j (dflt Qx))=QcQ (q,ca,p,cs):=by
    rw[r,←a,QaM (dflt Qx) (by omega) s]
   refine .k [] [] _ rfl (Qd ?_);show Q3 (cs.getD j (dflt Qx))=QB l;rw[e];exact w _ t (by rw[←e];exact s) d
  ·rename_i g b;have g:(j:Int)<(cs.length:Int):=g;have b:(Q3 (cs.getD j (dflt Qx)) != 0)=false:=b;apply Ex () [] []
   ·repeat' constructor
   ·omega
   ·exact QJ (by omega)
   exact(Qa4 (dflt Qx) (by omega) (by simpa using b)).symm.trans a
  ·rename_i g;have g:¬(j:Int)<(cs.length:Int):=g
   have e:QcQ (q,ca,p,cs)=0:=by
    rw[r,←a,Yk (by omega)];rfl
   apply Ex () [] []
   ·repeat' constructor
   ·omega
   ·exact QJ (by omega)
   exact y _ t e d
 ·have x:cs.length≤6:=Qb3 u;have r:QcQ (q,ca,p,cs)=Qab Q3 cs:=Yf u;have d:k<l.length:=by omega
  refine QA m f (A:=Unit) cs.length (fun i _=>St.mk (E10 (E1 ((.cell (.ro Qp l))::(I l.length)::(I k)::E40 (E10 (E2 ((.cell (.ro Qx cs))::(I cs.length)::(I i)::E10 [])))))) [])
   (fun j _=>Qab Q3 (cs.drop j)=Qab Q3 cs) () (Le.mk [] [] R R R ?_) rfl fun j _ B a=>?_
  ·repeat' constructor
  repeat' first|(apply Ea;conv=>whnf)|apply Eb|apply Ec|apply Ed|apply Ee|(apply Ei;intro _)|apply Ef m f
  all_goals clear m f
  ·rename_i g;have g:(j:Int)<(cs.length:Int):=g;show 0≤(j:Int)∧(j:Int)<(cs.length:Int);omega
  ·rename_i g b;have g:(j:Int)<(cs.length:Int):=g;have b:(Q3 (cs.getD j (dflt Qx)) != 0)=true:=b;have s:Q3 (cs.getD j (dflt Qx))≠0:=by simpa using b
   have e:Q3 (cs.getD j (dflt Qx))=QcQ (q,ca,p,cs):=by
    rw[r,←a,QaM (dflt Qx) (by omega) s]
   refine .k [] [] _ rfl (Qd ?_);show Q3 (cs.getD j (dflt Qx))=QB l;rw[e];exact w _ t (by rw[←e];exact s) d
  ·rename_i g b;have g:(j:Int)<(cs.length:Int):=g;have b:(Q3 (cs.getD j (dflt Qx)) != 0)=false:=b;apply Ex () [] []
   ·repeat' constructor
   ·omega
   ·exact QJ (by omega)
   exact(Qa4 (dflt Qx) (by omega) (by simpa using b)).symm.trans a
  ·rename_i g;have g:¬(j:Int)<(cs.length:Int):=g
   have e:QcQ (q,ca,p,cs)=0:=by
    rw[r,←a,Yk (by omega)];rfl
   apply Ex () [] []
   ·repeat' constructor
   ·omega
   ·exact QJ (by omega)
   exact y _ t e d
 ·have x:cs.length≤6:=Qb3 u;have r:QcQ (q,ca,p,cs)=Qab Q3 cs:=Yf u;have d:k<l.length:=by omega
  refine QA m f (A:=Unit) cs.length (fun i _=>St.mk (E10 (E1 ((.cell (.ro Qp l))::(I l.length)::(I k)::E40 (E10 (E2 ((.cell (.ro Qx cs))::(I cs.length)::(I i)::E10 [])))))) [])
   (fun j _=>Qab Q3 (cs.drop j)=Qab Q3 cs) () (Le.mk [] [] R R R ?_) rfl fun j _ B a=>?_
  ·repeat' constructor
  repeat' first|(apply Ea;conv=>whnf)|apply Eb|apply Ec|apply Ed|apply Ee|(apply Ei;intro _)|apply Ef m f
  all_goals clear m f
  ·rename_i g;have g:(j:Int)<(cs.length:Int):=g;show 0≤(j:Int)∧(j:Int)<(cs.length:Int);omega
  ·rename_i g b;have g:(j:Int)<(cs.length:Int):=g;have b:(Q3 (cs.getD j (dflt Qx)) != 0)=true:=b;have s:Q3 (cs.getD j (dflt Qx))≠0:=by simpa using b
   have e:Q3 (cs.getD j (dflt Qx))=QcQ (q,ca,p,cs):=by
    rw[r,←a,QaM (dflt Qx) (by omega) s]
   refine .k [] [] _ rfl (Qd ?_);show Q3 (cs.getD j (dflt Qx))=QB l;rw[e];exact w _ t (by rw[←e];exact s) d
  ·rename_i g b;have g:(j:Int)<(cs.length:Int):=g;have b:(Q3 (cs.getD j (dflt Qx)) != 0)=false:=b;apply Ex () [] []
   ·repeat' constructor
   ·omega
   ·exact QJ (by omega)
   exact(Qa4 (dflt Qx) (by omega) (by simpa using b)).symm.trans a
  ·rename_i g;have g:¬(j:Int)<(cs.length:Int):=g
   have e:QcQ (q,ca,p,cs)=0:=by
    rw[r,←a,Yk (by omega)];rfl
   apply Ex () [] []
   ·repeat' constructor
   ·omega
   ·exact QJ (by omega)
   exact y _ t e d
 ·have x:cs.length≤6:=Qb3 u;have r:QcQ (q,ca,p,cs)=Qab Q3 cs:=Yf u;have d:k<l.length:=by omega
  refine QA m f (A:=Unit) cs.length (fun i _=>St.mk (E10 (E1 ((.cell (.ro Qp l))::(I l.length)::(I k)::E40 (E10 (E2 ((.cell (.ro Qx cs))::(I cs.length)::(I i)::E10 [])))))) [])
   (fun j _=>Qab Q3 (cs.drop j)=Qab Q3 cs) () (Le.mk [] [] R R R ?_) rfl fun j _ B a=>?_
  ·repeat' constructor
  repeat' first|(apply Ea;conv=>whnf)|apply Eb|apply Ec|apply Ed|apply Ee|(apply Ei;intro _)|apply Ef m f
  all_goals clear m f
  ·rename_i g;have g:(j:Int)<(cs.length:Int):=g;show 0≤(j:Int)∧(j:Int)<(cs.length:Int);omega
  ·rename_i g b;have g:(j:Int)<(cs.length:Int):=g;have b:(Q3 (cs.getD j (dflt Qx)) != 0)=true:=b;have s:Q3 (cs.getD j (dflt Qx))≠0:=by simpa using b
   have e:Q3 (cs.getD j (dflt Qx))=QcQ (q,ca,p,cs):=by
    rw[r,←a,QaM (dflt Qx) (by omega) s]
   refine .k [] [] _ rfl (Qd ?_);show Q3 (cs.getD j (dflt Qx))=QB l;rw[e];exact w _ t (by rw[←e];exact s) d
  ·rename_i g b;have g:(j:Int)<(cs.length:Int):=g;have b:(Q3 (cs.getD j (dflt Qx)) != 0)=false:=b;apply Ex () [] []
   ·repeat' constructor
   ·omega
   ·exact QJ (by omega)
   exact(Qa4 (dflt Qx) (by omega) (by simpa using b)).symm.trans a
  ·rename_i g;have g:¬(j:Int)<(cs.length:Int):=g
   have e:QcQ (q,ca,p,cs)=0:=by
    rw[r,←a,Yk (by omega)];rfl
   apply Ex () [] []
   ·repeat' constructor
   ·omega
   ·exact QJ (by omega)
   exact y _ t e d
 ·have x:cs.length≤6:=Qb3 u;have r:QcQ (q,ca,p,cs)=Qab Q3 cs:=Yf u;have d:k<l.length:=by omega
  refine QA m f (A:=Unit) cs.length (fun i _=>St.mk (E10 (E1 ((.cell (.ro Qp l))::(I l.length)::(I k)::E40 (E10 (E2 ((.cell (.ro Qx cs))::(I cs.length)::(I i)::E10 [])))))) [])
   (fun j _=>Qab Q3 (cs.drop j)=Qab Q3 cs) () (Le.mk [] [] R R R ?_) rfl fun j _ B a=>?_
  ·repeat' constructor
  repeat' first|(apply Ea;conv=>whnf)|apply Eb|apply Ec|apply Ed|apply Ee|(apply Ei;intro _)|apply Ef m f
  all_goals clear m f
  ·rename_i g;have g:(j:Int)<(cs.length:Int):=g;show 0≤(j:Int)∧(j:Int)<(cs.length:Int);omega
  ·rename_i g b;have g:(j:Int)<(cs.length:Int):=g;have b:(Q3 (cs.getD j (dflt Qx)) != 0)=true:=b;have s:Q3 (cs.getD j (dflt Qx))≠0:=by simpa using b
   have e:Q3 (cs.getD j (dflt Qx))=QcQ (q,ca,p,cs):=by
    rw[r,←a,QaM (dflt Qx) (by omega) s]
   refine .k [] [] _ rfl (Qd ?_);show Q3 (cs.getD j (dflt Qx))=QB l;rw[e];exact w _ t (by rw[←e];exact s) d
  ·rename_i g b;have g:(j:Int)<(cs.length:Int):=g;have b:(Q3 (cs.getD j (dflt Qx)) != 0)=false:=b;apply Ex () [] []
   ·repeat' constructor
   ·omega
   ·exact QJ (by omega)
   exact(Qa4 (dflt Qx) (by omega) (by simpa using b)).symm.trans a
  ·rename_i g;have g:¬(j:Int)<(cs.length:Int):=g
   have e:QcQ (q,ca,p,cs)=0:=by
    rw[r,←a,Yk (by omega)];rfl
   apply Ex () [] []
   ·repeat' constructor
   ·omega
   ·exact QJ (by omega)
   exact y _ t e d
 ·have x:cs.length≤6:=Qb3 u;have r:QcQ (q,ca,p,cs)=Qab Q3 cs:=Yf u;have d:k<l.length:=by omega
  refine QA m f (A:=Unit) cs.length (fun i _=>St.mk (E10 (E1 ((.cell (.ro Qp l))::(I l.length)::(I k)::E40 (E10 (E2 ((.cell (.ro Qx cs))::(I cs.length)::(I i)::E10 [])))))) [])
   (fun j _=>Qab Q3 (cs.drop j)=Qab Q3 cs) () (Le.mk [] [] R R R ?_) rfl fun j _ B a=>?_
  ·repeat' constructor
  repeat' first|(apply Ea;conv=>whnf)|apply Eb|apply Ec|apply Ed|apply Ee|(apply Ei;intro _)|apply Ef m f
  all_goals clear m f
  ·rename_i g;have g:(j:Int)<(cs.length:Int):=g;show 0≤(j:Int)∧(j:Int)<(cs.length:Int);omega
  ·rename_i g b;have g:(j:Int)<(cs.length:Int):=g;have b:(Q3 (cs.getD j (dflt Qx)) != 0)=true:=b;have s:Q3 (cs.getD j (dflt Qx))≠0:=by simpa using b
   have e:Q3 (cs.getD j (dflt Qx))=QcQ (q,ca,p,cs):=by
    rw[r,←a,QaM (dflt Qx) (by omega) s]
   refine .k [] [] _ rfl (Qd ?_);show Q3 (cs.getD j (dflt Qx))=QB l;rw[e];exact w _ t (by rw[←e];exact s) d
  ·rename_i g b;have g:(j:Int)<(cs.length:Int):=g;have b:(Q3 (cs.getD j (dflt Qx)) != 0)=false:=b;apply Ex () [] []
   ·repeat' constructor
   ·omega
   ·exact QJ (by omega)
   exact(Qa4 (dflt Qx) (by omega) (by simpa using b)).symm.trans a
  ·rename_i g;have g:¬(j:Int)<(cs.length:Int):=g
   have e:QcQ (q,ca,p,cs)=0:=by
    rw[r,←a,Yk (by omega)];rfl
   apply Ex () [] []
   ·repeat' constructor
   ·omega
   ·exact QJ (by omega)
   exact y _ t e d
 ·rename_i g;have g:¬(k:Int)<(l.length:Int):=by assumption
  refine .k [] [] _ rfl (Qd ?_);show 0=QB l;rw[hC,←C,Yk (by omega)];rfl
def Qi6(x y:Ins):Bool:=bif Qm y.2.1 x.2.1 then decide (y.2.2.1=x.2.2.1) else false
def QEj:List V1→List Blk→Option (Ins×Ins):=fun a b=>match a,b with
 | [.agg [.imm (.int .i64 eo),.imm (.string en),.imm (.int .i64 em),.ro (.pair (.int .i64) (.pair (.int .i64) (.pair (.int .i64) (.sl (.pair (.int .i64) (.pair (.int .i64) (.pair (.int .i64) (.int .i64)))))))) ec],.c (.ptr 0 0)],[.var [.imm (.int .i64 co),.imm (.string q),.imm (.int .i64 r),.ro (.pair (.int .i64) (.pair (.int .i64) (.pair (.int .i64) (.sl (.pair (.int .i64) (.pair (.int .i64) (.pair (.int .i64) (.int .i64)))))))) cc]]=>some ((eo,en,em,ec),(co,q,r,cc))
 |_,_=>none
theorem QzQ{a:List V1}{b:List Blk}{x:Ins×Ins}(h:QEj a b=some x):a=[.agg [iv .i64 x.1.1,.imm (.string x.1.2.1),iv .i64 x.1.2.2.1,.ro Qp x.1.2.2.2],.c (.ptr 0 0)]∧b=[.var [iv .i64 x.2.1,.imm (.string x.2.2.1),iv .i64 x.2.2.2.1,.ro Qp x.2.2.2.2]]:=by
 unfold QEj at h;split at h
 ·injection h with h;subst h;exact⟨rfl,rfl⟩
 ·cases h
def QL6:WSpec:=⟨Ins×Ins,fun x=>[.agg [iv .i64 x.1.1,.imm (.string x.1.2.1),iv .i64 x.1.2.2.1,.ro Qp x.1.2.2.2],.c (.ptr 0 0)],fun x=>[.var [iv .i64 x.2.1,.imm (.string x.2.2.1),iv .i64 x.2.2.2.1,.ro Qp x.2.2.2.2]],QEj,
 fun x=>(some ((fun _=>True) x.2),.cell (bv (Qi6 x.2 x.1)),[some (.var [iv .i64 x.2.1,.imm (.string x.2.2.1),iv .i64 x.2.2.2.1,.ro Qp x.2.2.2.2])],[])⟩
theorem QHx:G0 188 QL6.spec:=by
 have e:S0 _:=(Qb (T:=tree))
 have f:=tabs e Qc;refine QL6.gd f e Tryz.func188 (fun _ _ _ h=>QzQ h) fun(x:Ins×Ins) m=>?_
 have m:(fun _=>True) x.2:=m _ rfl
 repeat' first|(apply Ea;conv=>whnf)|apply Eb|apply Ec|apply Ed|apply Ee|(apply Ei;intro _)|apply Ef f e
 all_goals clear f e
 all_goals first
  |(rename_i g
    have g:Qm x.1.2.1 x.2.2.1=true:=g;refine .k [] [0] _ rfl (Qj ?_);show _=bif Qm x.1.2.1 x.2.2.1 then decide (x.1.2.2.1=x.2.2.2.1) else false
    rw[g];rfl)
  |(rename_i g
    have g:Qm x.1.2.1 x.2.2.1=false:=g;refine .k [] [0] _ rfl (Qj ?_);show _=bif Qm x.1.2.1 x.2.2.1 then decide (x.1.2.2.1=x.2.2.2.1) else false
    rw[g];rfl)
  |skip
structure tkX where
 l:List Ins
 d:Ins
def QIZ:List V1→List Blk→Option tkX:=fun a b=>match a,b with
 | [.c (.ro (.pair (.int .i64) (.pair .str (.pair (.int .i64) (.sl (.pair (.int .i64) (.pair (.int .i64) (.pair (.int .i64) (.sl (.pair (.int .i64) (.pair (.int .i64) (.pair (.int .i64) (.int .i64))))))))))))  l),.c (.fn 188 [0])],[.var [.imm (.int .i64 co),.imm (.string q),.imm (.int .i64 r),.ro (.pair (.int .i64) (.pair (.int .i64) (.pair (.int .i64) (.sl (.pair (.int .i64) (.pair (.int .i64) (.pair (.int .i64) (.int .i64)))))))) cc]]=>some ⟨l,(co,q,r,cc)⟩
 |_,_=>none
theorem Qwb{a:List V1}{b:List Blk}{x:tkX}(h:QIZ a b=some x):a=[.c (.ro Qap x.l),.c (.fn 188 [0])]∧b=[.var [iv .i64 x.d.1,.imm (.string x.d.2.1),iv .i64 x.d.2.2.1,.ro Qp x.d.2.2.2]]:=by
 unfold QIZ at h;split at h
 ·injection h with h;subst h;exact⟨rfl,rfl⟩
 ·cases h
def QL7:WSpec:=⟨tkX,fun x=>[.c (.ro Qap x.l),.c (.fn 188 [0])],fun x=>[.var [iv .i64 x.d.1,.imm (.string x.d.2.1),iv .i64 x.d.2.2.1,.ro Qp x.d.2.2.2]],QIZ,
 fun x=>(some (x.l.length≤4611686018427387904∧(fun _=>True) x.d),I (QbV (Qi6 x.d) x.l),[some (.var [iv .i64 x.d.1,.imm (.string x.d.2.1),iv .i64 x.d.2.2.1,.ro Qp x.d.2.2.2])],[])⟩
theorem QHy:G0 145 QL7.spec:=by
 have e:S0 _:=Qa QHx (Qb (T:=tree));have f:=tabs e Qc;refine QL7.gd f e Tryz.func145 (fun _ _ _ h=>Qwb h) fun(x:tkX) m=>?_
 obtain⟨hl,m⟩:x.l.length≤4611686018427387904∧(fun _=>True) x.d:=m _ rfl;obtain⟨l,d⟩:=x;have hl:l.length≤4611686018427387904:=hl
 repeat' first|(apply Ea;conv=>whnf)|apply Eb|apply Ec|apply Ed|apply Ee|(apply Ei;intro _)|apply Ef f e
 refine QA f e (A:=Unit) l.length (fun i _=>St.mk ((.cell (.ro Qap l))::(.cell (.fn 188 [0]))::E5 ((I l.length)::(I i)::E10 [])) [some (.var [iv .i64 d.1,.imm (.string d.2.1),iv .i64 d.2.2.1,.ro Qp d.2.2.2])])
  (fun k _=>QdO (Qi6 d) (l.drop k) k=QbV (Qi6 d) l) () (Le.mk [] [0] R R R ?_) rfl fun k _ hk p=>?_
 ·repeat' constructor
 repeat' first|(apply Ea;conv=>whnf)|apply Eb|apply Ec|apply Ed|apply Ee|(apply Ei;intro _)|apply Ef f e
 all_goals clear f e
 ·rename_i j;have j:(k:Int)<(l.length:Int):=j;show 0≤(k:Int)∧(k:Int)<(l.length:Int);omega
 ·first|exact m|exact trivial
 ·rename_i j n;have j:(k:Int)<(l.length:Int):=j;exact .k [] [0] _ rfl (Qd (QdG (dflt Qap) (by omega) n p))
 ·rename_i j n;have j:(k:Int)<(l.length:Int):=j
  have hp:¬Qi6 d (l.getD k (dflt Qap))=true:=by
   have n:Qi6 d (l.getD k (dflt Qap))=false:=n;rw[n];decide
  apply Ex () [] [0]
  ·repeat' constructor
  ·omega
  ·exact QJ (by omega)
  exact Qbu (dflt Qap) (by omega) hp p
 ·rename_i j;have j:¬(k:Int)<(l.length:Int):=j;exact .k [] [0] _ rfl (Qd (QcO (by omega) p))
def QL8:WSpec:=⟨tkX,fun x=>[.c (.ro Qap x.l),.c (.fn 188 [0])],fun x=>[.var [iv .i64 x.d.1,.imm (.string x.d.2.1),iv .i64 x.d.2.2.1,.ro Qp x.d.2.2.2]],QIZ,
 fun x=>(some (x.l.length≤4611686018427387904∧(fun _=>True) x.d),.cell (bv (x.l.any (Qi6 x.d))),[some (.var [iv .i64 x.d.1,.imm (.string x.d.2.1),iv .i64 x.d.2.2.1,.ro Qp x.d.2.2.2])],[])⟩
theorem QHz:G0 187 QL8.spec:=by
 have e:S0 _:=Qa QHy (Qb (T:=tree));have f:=tabs e Qc;refine QL8.gd f e Tryz.func187 (fun _ _ _ h=>Qwb h) fun(x:tkX) m=>?_
 have m:x.l.length≤4611686018427387904∧(fun _=>True) x.d:=m _ rfl;obtain⟨l,d⟩:=x
 repeat' first|(apply Ea;conv=>whnf)|apply Eb|apply Ec|apply Ed|apply Ee|(apply Ei;intro _)|apply Ef f e
 all_goals clear f e
 ·first|exact m|exact trivial
 ·exact .k [] [0] _ rfl (Qj (Qiq (Qi6 d) l))
theorem kxg{k:Int}(h:k<0∨8<k):k≠4∧k≠5∧k≠8:=by omega
theorem kxa{k:Int}(h:k<0∨8<k):k≠3∧k≠5∧k≠8:=by omega
theorem kxs{k:Int}(h:k<0∨8<k):k<4∨8<k:=by omega
def QyI:PSpec:=⟨[gC,gD,gi],fun(c,d,a,_)=>(some (cP c∧dP d),.tup [Qi2,I1 (loadI c d a)],[.arr (.int .i64) (loadD c d a).1,.arr (.int .u8) (loadD c d a).2])⟩
theorem QrN:G0 76 QyI.spec:=by
 refine QR.sel Qcw fun(c,d,a,_) r=>?_
 obtain⟨m,i,p,cs,n⟩:=c;obtain⟨N,M⟩:=d;obtain⟨j,f,g⟩:cP (m,i,p,cs,n)∧dP (N,M):=r _ rfl;clear r;show∃o1:Args [gC,gD,gi]→Option Prop×AV×List Blk,_;rcases kinds i with rfl|rfl|rfl|rfl|rfl|rfl|rfl|rfl|rfl|s
 ·exact⟨_,Qcw,fun q b=>by cases b;exact⟨⟨j,f,g⟩,.inl rfl⟩,.refl⟩
 ·exact⟨_,Qcw,fun q b=>by cases b;exact⟨⟨j,f,g⟩,.inr (.inl rfl)⟩,.refl⟩
 ·exact⟨_,Qcw,fun q b=>by cases b;exact⟨⟨j,f,g⟩,.inr (.inr (.inl rfl))⟩,.refl⟩
 ·exact⟨_,Qrs,fun q b=>by cases b;rfl,.nil (.int .u8) rfl .refl⟩
 ·exact⟨_,Qrp,fun q b=>by cases b;rfl,.nil (.int .u8) rfl .refl⟩
 ·exact⟨_,Qrt,fun q b=>by cases b;rfl,.nil (.int .u8) rfl .refl⟩
 ·exact⟨_,QrD,fun q b=>by cases b;exact⟨rfl,g⟩,.refl⟩
 ·exact⟨_,QrA,fun q b=>by cases b;rfl,.nil (.int .u8) rfl .refl⟩
 ·exact⟨_,Qnz,fun q b=>by cases b;exact⟨rfl,f⟩,.refl⟩
 ·exact⟨_,Qcw,fun q b=>by cases b;exact⟨⟨j,f,g⟩,.inr (.inr (.inr s))⟩,.refl⟩
def QyJ:PSpec:=⟨[gC,gD,gi,gi],fun(c,d,a,k,_)=>(some (cP c∧dP d),QdC,[.arr (.int .i64) (Qbg c d a k).1,.arr (.int .u8) (Qbg c d a k).2])⟩
theorem QrO:G0 77 QyJ.spec:=by
 refine QR.sel Qcx fun(c,d,a,k,_) r=>?_
 obtain⟨m,i,p,cs,n⟩:=c;obtain⟨N,M⟩:=d;obtain⟨j,f,g⟩:cP (m,i,p,cs,n)∧dP (N,M):=r _ rfl;clear r;show∃o1:Args [gC,gD,gi,gi]→Option Prop×AV×List Blk,_;rcases kinds i with rfl|rfl|rfl|rfl|rfl|rfl|rfl|rfl|rfl|s
 ·exact⟨_,Qcx,fun q b=>by cases b;exact⟨⟨j,f,g⟩,.inl rfl⟩,.refl⟩
 ·exact⟨_,Qcx,fun q b=>by cases b;exact⟨⟨j,f,g⟩,.inr (.inl rfl)⟩,.refl⟩
 ·exact⟨_,Qcx,fun q b=>by cases b;exact⟨⟨j,f,g⟩,.inr (.inr (.inl rfl))⟩,.refl⟩
 ·exact⟨_,Qrr,fun q b=>by cases b;rfl,.nil (.int .u8) rfl .refl⟩
 ·exact⟨_,Qrn,fun q b=>by cases b;rfl,.nil (.int .u8) rfl .refl⟩
 ·exact⟨_,Qru,fun q b=>by cases b;rfl,.nil (.int .u8) rfl .refl⟩
 ·exact⟨_,QrE,fun q b=>by cases b;rfl,.refl⟩
 ·exact⟨_,QrB,fun q b=>by cases b;rfl,.nil (.int .u8) rfl .refl⟩
 ·exact⟨_,QnA,fun q b=>by cases b;exact⟨rfl,f⟩,.refl⟩
 ·exact⟨_,Qcx,fun q b=>by cases b;exact⟨⟨j,f,g⟩,.inr (.inr (.inr s))⟩,.refl⟩
def QDx:PSpec:=⟨[gC,gD,gi],fun(c,d,k,_)=>(some (cP c∧dP d),QdC,[.arr (.int .i64) (Qmn c d k).1,.arr (.int .u8) (Qmn c d k).2])⟩
theorem QuO:G0 73 QDx.spec:=by
 refine QR.sel Qbx fun(c,d,k,_) r=>?_
 obtain⟨m,i,p,cs,n⟩:=c;obtain⟨N,M⟩:=d;obtain⟨j,f,g⟩:cP (m,i,p,cs,n)∧dP (N,M):=r _ rfl;clear r;show∃o1:Args [gC,gD,gi]→Option Prop×AV×List Blk,_;rcases kinds i with rfl|rfl|rfl|rfl|rfl|rfl|rfl|rfl|rfl|s
 ·exact⟨_,Qbx,fun q b=>by cases b;exact⟨⟨j,f,g⟩,(by decide:(0:Int)≠4∧(0:Int)≠5∧(0:Int)≠8)⟩,.refl⟩
 ·exact⟨_,Qbx,fun q b=>by cases b;exact⟨⟨j,f,g⟩,(by decide:(1:Int)≠4∧(1:Int)≠5∧(1:Int)≠8)⟩,.refl⟩
 ·exact⟨_,Qbx,fun q b=>by cases b;exact⟨⟨j,f,g⟩,(by decide:(2:Int)≠4∧(2:Int)≠5∧(2:Int)≠8)⟩,.refl⟩
 ·exact⟨_,Qbx,fun q b=>by cases b;exact⟨⟨j,f,g⟩,(by decide:(3:Int)≠4∧(3:Int)≠5∧(3:Int)≠8)⟩,.refl⟩
 ·exact⟨_,QtZ,fun q b=>by cases b;rfl,.nil (.int .u8) rfl .refl⟩
 ·exact⟨_,Quc,fun q b=>by cases b;rfl,.nil (.int .u8) rfl .refl⟩
 ·exact⟨_,Qbx,fun q b=>by cases b;exact⟨⟨j,f,g⟩,(by decide:(6:Int)≠4∧(6:Int)≠5∧(6:Int)≠8)⟩,.refl⟩
 ·exact⟨_,Qbx,fun q b=>by cases b;exact⟨⟨j,f,g⟩,(by decide:(7:Int)≠4∧(7:Int)≠5∧(7:Int)≠8)⟩,.refl⟩
 ·exact⟨_,Qrm,fun q b=>by cases b;exact⟨rfl,f⟩,.refl⟩
 ·refine⟨_,Qbx,fun q b=>by cases b;exact⟨⟨j,f,g⟩,kxg s⟩,?_⟩;have e:Q9 (m,i,p,cs,n) (N,M)=Qmn (m,i,p,cs,n) (N,M) k:=by unfold Q9 Qmn;rw[Qai s,Qai s]
  show Conv (QdC,[Blk.arr (.int .i64) (Q9 (m,i,p,cs,n) (N,M)).1,.arr (.int .u8) (Q9 (m,i,p,cs,n) (N,M)).2]) _;rw[e];exact .refl
def QaE(c:Cv)(d:Dv):Bool:=sel c.2.1 false (decide (tF d.1=1)&&decide (tC d.1≥4)) false (QcW d.1) false false (QCQ d.1) false
def Qat(c:Cv)(d:Dv):Int:=sel c.2.1 0 0 (land .i64 (d.1.getD 1 0%256) (d.1.getD 2 0%256)) (s6 d.1*256+s7 d.1) (Qaj (vM d.2) (vP d.1)) (Qi1 d.1) (e1 d.1) 0
def QcD(c:Cv)(d:Dv):Int:=sel c.2.1 100000 (Qd9 d.1) 100000 (Qea d.1) (Qct (vM d.2) (vP d.1)) (Qui d.1) (QgR d.1) 100000
def QyK:PSpec:=⟨[gC,gD],fun(c,d,_)=>(some (cP c∧dP d),.cell (bv (QaE c d)),[])⟩
theorem QrP:G0 16 QyK.spec:=by
 refine QR.sel Qa3 fun(c,d,_) r=>?_
 obtain⟨m,i,p,cs,n⟩:=c;obtain⟨N,M⟩:=d;obtain⟨j,f,g⟩:cP (m,i,p,cs,n)∧dP (N,M):=r _ rfl;clear r;show∃o1:Args [gC,gD]→Option Prop×AV×List Blk,_;rcases kinds i with rfl|rfl|rfl|rfl|rfl|rfl|rfl|rfl|rfl|s
 ·exact⟨_,Qa3,fun q b=>by cases b;exact⟨⟨j,f,g⟩,(by decide:(0:Int)≠3∧(0:Int)≠5∧(0:Int)≠8)⟩,.refl⟩
 ·exact⟨_,Qa3,fun q b=>by cases b;exact⟨⟨j,f,g⟩,(by decide:(1:Int)≠3∧(1:Int)≠5∧(1:Int)≠8)⟩,.refl⟩
 ·exact⟨_,Qa3,fun q b=>by cases b;exact⟨⟨j,f,g⟩,(by decide:(2:Int)≠3∧(2:Int)≠5∧(2:Int)≠8)⟩,.refl⟩
 ·exact⟨_,QC8,fun q b=>by cases b;rfl,.refl⟩
 ·exact⟨_,Qa3,fun q b=>by cases b;exact⟨⟨j,f,g⟩,(by decide:(4:Int)≠3∧(4:Int)≠5∧(4:Int)≠8)⟩,.refl⟩
 ·exact⟨_,QDa,fun q b=>by cases b;rfl,.refl⟩
 ·exact⟨_,Qa3,fun q b=>by cases b;exact⟨⟨j,f,g⟩,(by decide:(6:Int)≠3∧(6:Int)≠5∧(6:Int)≠8)⟩,.refl⟩
 ·exact⟨_,Qa3,fun q b=>by cases b;exact⟨⟨j,f,g⟩,(by decide:(7:Int)≠3∧(7:Int)≠5∧(7:Int)≠8)⟩,.refl⟩
 ·exact⟨_,QCS,fun q b=>by cases b;exact⟨rfl,f⟩,.refl⟩
 ·refine⟨_,Qa3,fun q b=>by cases b;exact⟨⟨j,f,g⟩,kxa s⟩,?_⟩;have e:QaE (m,i,p,cs,n) (N,M)=false:=by unfold QaE;rw[Qai s]
  show Conv (AV.cell (bv false),[]) (AV.cell (bv (QaE (m,i,p,cs,n) (N,M))),[]);rw[e];exact .refl
def QDy:PSpec:=⟨[gC,gD],fun(c,d,_)=>(some (cP c∧dP d),I (Qat c d),[])⟩
theorem QuP:G0 72 QDy.spec:=by
 refine QR.sel Qck fun(c,d,_) r=>?_
 obtain⟨m,i,p,cs,n⟩:=c;obtain⟨N,M⟩:=d;obtain⟨j,f,g⟩:cP (m,i,p,cs,n)∧dP (N,M):=r _ rfl;clear r;show∃o1:Args [gC,gD]→Option Prop×AV×List Blk,_;rcases kinds i with rfl|rfl|rfl|rfl|rfl|rfl|rfl|rfl|rfl|s
 ·exact⟨_,Qck,fun q b=>by cases b;exact⟨⟨j,f,g⟩,.inl (by decide:(0:Int)<4)⟩,.refl⟩
 ·exact⟨_,Qck,fun q b=>by cases b;exact⟨⟨j,f,g⟩,.inl (by decide:(1:Int)<4)⟩,.refl⟩
 ·exact⟨_,Qck,fun q b=>by cases b;exact⟨⟨j,f,g⟩,.inl (by decide:(2:Int)<4)⟩,.refl⟩
 ·exact⟨_,Qck,fun q b=>by cases b;exact⟨⟨j,f,g⟩,.inl (by decide:(3:Int)<4)⟩,.refl⟩
 ·exact⟨_,QtX,fun q b=>by cases b;rfl,.refl⟩
 ·exact⟨_,Que,fun q b=>by cases b;rfl,.refl⟩
 ·exact⟨_,Quo,fun q b=>by cases b;exact⟨rfl,g⟩,.refl⟩
 ·exact⟨_,Qum,fun q b=>by cases b;rfl,.refl⟩
 ·exact⟨_,QtI,fun q b=>by cases b;exact⟨rfl,f⟩,.refl⟩
 ·refine⟨_,Qck,fun q b=>by cases b;exact⟨⟨j,f,g⟩,kxs s⟩,?_⟩;have e:Qat (m,i,p,cs,n) (N,M)=0:=by unfold Qat;rw[Qai s]
  show Conv (I 0,[]) (I (Qat (m,i,p,cs,n) (N,M)),[]);rw[e];exact .refl
theorem QyL{c:Cv}(d:Dv)(k:Int)(h:c.2.1≠4∧c.2.1≠5∧c.2.1≠8):Qdg c d 0=Qmn c d k:=by
 obtain⟨m,i,p,cs,n⟩:=c;obtain⟨N,M⟩:=d;obtain⟨h4,h5,h8⟩:=h;rcases kinds i with rfl|rfl|rfl|rfl|rfl|rfl|rfl|rfl|rfl|s
 all_goals first
  |exact YD rfl h4
  |exact YD rfl h5
  |exact YD rfl h8
  |rfl
  |(unfold Qdg Qmn;rw[Qai s,Qai s])
def QLJ:PSpec:=⟨[gC,gD,gi],fun(c,d,k,_)=>(some (cP c∧dP d),QdC,[.arr (.int .i64) (Qmn c d k).1,.arr (.int .u8) (Qmn c d k).2])⟩
theorem QGt:G0 206 QLJ.spec:=by
 have t:S0 _:=Qa Qur (Qa QDo (Qa Qrk (Qa Qkv (Qb (T:=tree)))));have u:=tabs t Qc;refine QLJ.gd u t Tryz.func206 fun(c:Cv) (d:Dv) (k:Int) r=>?_
 obtain⟨m,i,p,cs,n⟩:=c;obtain⟨N,M⟩:=d;obtain⟨j,f,g⟩:cP (m,i,p,cs,n)∧dP (N,M):=r _ rfl;clear r;rcases kinds i with rfl|rfl|rfl|rfl|rfl|rfl|rfl|rfl|rfl|s
 all_goals
  repeat' first|(apply Ea;conv=>whnf)|apply Eb|apply Ec|apply Ed|apply Ee|(apply Ei;intro _)|apply Ef u t
  all_goals(try dsimp only[Qf] at *)
 all_goals first
  |exact⟨j,⟨f,g⟩,by decide⟩
  |exact f
  |exact .k [] [3,4] _ R R
  |(exfalso;omega)
  |exact .mk [] [3,4] _ R R R R R (Qcv (QyL (c:=(m,i,p,cs,n)) (N,M) k (kxg s))) rfl
  |skip
def QGu:PSpec:=⟨[gC,gD],fun(c,d,_)=>(some (cP c∧dP d),.cell (bv (QaE c d)),[])⟩
theorem QDz:G0 67 QGu.spec:=by
 have t:S0 _:=Qa QC7 (Qa QC9 (Qa QCR (Qb (T:=tree))));have u:=tabs t Qc;refine QGu.gd u t Tryz.func67 fun(c:Cv) (d:Dv) r=>?_
 obtain⟨m,i,p,cs,n⟩:=c;obtain⟨N,M⟩:=d;obtain⟨j,f,g⟩:cP (m,i,p,cs,n)∧dP (N,M):=r _ rfl;clear r;rcases kinds i with rfl|rfl|rfl|rfl|rfl|rfl|rfl|rfl|rfl|s
 all_goals
  repeat' first|(apply Ea;conv=>whnf)|apply Eb|apply Ec|apply Ed|apply Ee|(apply Ei;intro _)|apply Ef u t
  all_goals(try dsimp only[Qf] at *)
 all_goals first
  |exact f
  |exact .k [] [] _ R R
  |(exfalso;omega)
  |(refine .k [] [] _ rfl (Qj ?_);show false=QaE (m,i,p,cs,n) (N,M);unfold QaE;rw[Qai s])
  |skip
def QGv:PSpec:=⟨[gC,gD],fun(c,d,_)=>(some (cP c∧dP d),I (Qat c d),[])⟩
theorem QuQ:G0 136 QGv.spec:=by
 have t:S0 _:=Qa QC2 (Qa QDb (Qa QCY (Qa QDf (Qa QCT (Qb (T:=tree))))));have u:=tabs t Qc;refine QGv.gd u t Tryz.func136 fun(c:Cv) (d:Dv) r=>?_
 obtain⟨m,i,p,cs,n⟩:=c;obtain⟨N,M⟩:=d;obtain⟨j,f,g⟩:cP (m,i,p,cs,n)∧dP (N,M):=r _ rfl;clear r;rcases kinds i with rfl|rfl|rfl|rfl|rfl|rfl|rfl|rfl|rfl|s
 all_goals
  repeat' first|(apply Ea;conv=>whnf)|apply Eb|apply Ec|apply Ed|apply Ee|(apply Ei;intro _)|apply Ef u t
  all_goals(try dsimp only[Qf] at *)
 all_goals first
  |exact f
  |exact g
  |exact .k [] [] _ R R
  |(exfalso;omega)
  |(refine .k [] [] _ rfl (Qd ?_);show 0=Qat (m,i,p,cs,n) (N,M);unfold Qat;rw[Qai s])
  |skip
def QBq:PSpec:=⟨[gC,gD],fun(c,d,_)=>(some (cP c∧dP d),I (QcD c d),[])⟩
theorem QyM:G0 82 QBq.spec:=by
 have t:S0 _:=Qa Qx8 (Qa Qyb (Qa Qx0 (Qa Qyd (Qa QxU (Qb (T:=tree))))));have u:=tabs t Qc;refine QBq.gd u t Tryz.func82 fun(c:Cv) (d:Dv) r=>?_
 obtain⟨m,i,p,cs,n⟩:=c;obtain⟨N,M⟩:=d;obtain⟨j,f,g⟩:cP (m,i,p,cs,n)∧dP (N,M):=r _ rfl;clear r;rcases kinds i with rfl|rfl|rfl|rfl|rfl|rfl|rfl|rfl|rfl|s
 all_goals
  repeat' first|(apply Ea;conv=>whnf)|apply Eb|apply Ec|apply Ed|apply Ee|(apply Ei;intro _)|apply Ef u t
  all_goals(try dsimp only[Qf] at *)
 all_goals first
  |exact f
  |exact g
  |exact .k [] [] _ R R
  |(exfalso;omega)
  |(refine .k [] [] _ rfl (Qd ?_);show 100000=QcD (m,i,p,cs,n) (N,M);unfold QcD;rw[Qai s])
  |skip
def Qfb(c:Cyc):Bool:=bif decide (c.1=1) then decide (c.2.1=0) else false
def Qi7(l:List Cyc):Int:=((l.filter Qfb).length:Nat)
theorem Qbd{α:Type}{l:List α}{k:Nat}(d:α)(h:k<l.length):l.take (k+1)=l.take k++[l.getD k d]:=by
 rw[Je,Yd,Ye h];rfl
theorem Qk0{l:List Cyc}{k:Nat}(h:k<l.length)(b:Qfb (l.getD k (dflt Qp))=true):((l.take k).filter Qfb).length+1=((l.take (k+1)).filter Qfb).length:=by
 rw[Qbd (dflt Qp) h,List.filter_append,List.filter_cons,Yf b,Ym];rfl
theorem QgE{l:List Cyc}{k:Nat}(h:k<l.length)(b:Qfb (l.getD k (dflt Qp))=false):((l.take k).filter Qfb).length=((l.take (k+1)).filter Qfb).length:=by
 rw[Qbd (dflt Qp) h,List.filter_append,List.filter_cons,Yb (by rw[b];decide),Ym];rfl
def QBO:PSpec:=⟨[⟨false,.sl Qp⟩],fun(l,_)=>(some (List.length l≤1000),I (Qi7 l),[])⟩
theorem QzR:G0 190 QBO.spec:=by
 have j:S0 _:=(Qb (T:=tree))
 have m:=tabs j Qc;refine QBO.gd m j Tryz.func190 fun(l:List Cyc) hq=>?_
 have hl:l.length≤1000:=hq _ rfl;clear hq
 repeat' first|(apply Ea;conv=>whnf)|apply Eb|apply Ec|apply Ed|apply Ee|(apply Ei;intro _)|apply Ef m j
 refine QA m j (A:=Int) l.length (fun i n=>St.mk (E3 ((I n)::E2 ((.cell (.ro Qp l))::(I l.length)::(I i)::E10 (E5 [])))) [])
  (fun k n=>n=(((l.take k).filter Qfb).length:Nat)) 0 (Le.mk [] [] R R R ?_) rfl fun k n hk hi=>?_
 ·repeat' constructor
 repeat' first|(apply Ea;conv=>whnf)|apply Eb|apply Ec|apply Ed|apply Ee|(apply Ei;intro _)|apply Ef m j
 all_goals clear m j
 all_goals have hf:=List.length_filter_le Qfb (l.take k)
 all_goals rw[Yq] at hf
 ·rename_i g;have g:(k:Int)<(l.length:Int):=g;show 0≤(k:Int)∧(k:Int)<(l.length:Int);omega
 ·rename_i g a f;have g:(k:Int)<(l.length:Int):=g
  have b:Qfb (l.getD k (dflt Qp))=true:=by
   have a:(l.getD k (dflt Qp)).1=1:=a;have f:(l.getD k (dflt Qp)).2.1=0:=f;unfold Qfb;rw[Yl a,Yl f];rfl
  apply Ex _ [] []
  ·repeat' constructor
  ·omega
  ·exact QJ (by omega)
  have e:IntKind.i64.wrap (n+1)=n+1:=w64 (by omega) (by omega);have e2:=Qk0 (show k<l.length by omega) b;rw[e];omega
 ·rename_i g a f;have g:(k:Int)<(l.length:Int):=g
  have b:Qfb (l.getD k (dflt Qp))=false:=by
   have a:(l.getD k (dflt Qp)).1=1:=a;have f:¬(l.getD k (dflt Qp)).2.1=0:=f;unfold Qfb;rw[Yl a,Yn f];rfl
  apply Ex _ [] []
  ·repeat' constructor
  ·omega
  ·exact QJ (by omega)
  have e2:=QgE (show k<l.length by omega) b;omega
 ·rename_i g a;have g:(k:Int)<(l.length:Int):=g
  have b:Qfb (l.getD k (dflt Qp))=false:=by
   have a:¬(l.getD k (dflt Qp)).1=1:=a;unfold Qfb;rw[Yn a];rfl
  apply Ex _ [] []
  ·repeat' constructor
  ·omega
  ·exact QJ (by omega)
  have e2:=QgE (show k<l.length by omega) b;omega
 ·rename_i g;have g:¬(k:Int)<(l.length:Int):=g;refine .k [] [] _ rfl (Qd ?_);rw[hi,Yh (by omega)];rfl
end Go.Proofs.YtofgbclopbmlcaaGreat





