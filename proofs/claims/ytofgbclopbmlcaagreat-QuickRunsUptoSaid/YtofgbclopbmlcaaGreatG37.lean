/- Part 37 of the proof. Conditions: none. -/
import Derived.Test.YtofgbclopbmlcaaGreatG28
import Derived.Test.YtofgbclopbmlcaaGreatG34
import Derived.Test.YtofgbclopbmlcaaGreatG35
import Derived.Test.YtofgbclopbmlcaaGreatG23
import Derived.Test.YtofgbclopbmlcaaGreatG36
namespace Go.Proofs.YtofgbclopbmlcaaGreat
set_option maxHeartbeats 2000000
open Go.Fw
set_option linter.unusedVariables false
set_option linter.unusedSimpArgs false
set_option linter.constructorNameAsVariable false
set_option maxRecDepth 100000
def Q6{α:Type}(f:α→Int):List α→Int
 | []=>0
 |x::r=>if f x=0 then Q6 f r else f x
theorem Qa1{α:Type}{f:α→Int}{l:List α}{k:Nat}(d:α)(h:k<l.length)(h0:f (l.getD k d)=0):Q6 f (l.drop k)=Q6 f (l.drop (k+1)):=by
 rw[List.drop_eq_getElem_cons h];rw[List.getD_eq_getElem?_getD,List.getElem?_eq_getElem h] at h0;exact if_pos h0
theorem QaH{α:Type}{f:α→Int}{l:List α}{k:Nat}(d:α)(h:k<l.length)(h0:f (l.getD k d)≠0):Q6 f (l.drop k)=f (l.getD k d):=by
 rw[List.getD_eq_getElem?_getD,List.getElem?_eq_getElem h] at h0 ⊢;rw[List.drop_eq_getElem_cons h];exact if_neg h0
def Qil(c:Cyc):Int:=if c.1<0∨c.1>2 then 8 else if c.1=0∧(c.2.1≠0∨c.2.2.1≠0) then 3 else if c.2.1<0∨c.2.1>11∨¬(0≤c.2.2.1∧c.2.2.1≤6) then 1 else if c.2.2.2.length>6 then 2 else 0
def QcL(c:Cyc):Int:=if Qil c=0 then Q6 Q1 c.2.2.2 else Qil c
def Qy(l:List Cyc):Int:=if l.length>8 then 2 else Q6 QcL l
theorem QbX{c:Cyc}(h:Qil c=0):c.2.2.2.length≤6:=by
 unfold Qil at h
 repeat' split at h
 all_goals first
  |omega
  |cases h
abbrev QJc:Sig:=⟨true,Qs⟩
def QvP:PSpec:=⟨[QJc],fun(c,_)=>(none,I (QcL c),[])⟩
theorem QvQ:G0 239 QvP.spec:=by
 have hP:S0 _:=Qa QnO (Qa QfH (Qa Qzh (Qb (T:=tree))));have hT:=tabs hP Qc;refine QvP.gd hT hP Tryz.func239 fun(c:Cyc) _=>?_
 obtain⟨cb,ca,cr,cs⟩:=c
 repeat' first|(apply Ea;conv=>whnf)|apply Eb|apply Ec<;>intro _|apply Ed<;>intro _|apply Ee<;>intro _|apply Ef hT hP
 all_goals(try dsimp only[Qf] at *)
 all_goals first
  |(refine .k [] [] _ rfl (Qd ?_)
    clear hT hP;show _=QcL (cb,ca,cr,cs);simp[QcL,Qil,QeH] at *
    first
     |omega
     |(simp_all;done)
     |(simp_all;omega))
  |skip
 all_goals
  have hE:Qil (cb,ca,cr,cs)=0:=by
   clear hT hP;simp[Qil,QeH] at *
   first
    |omega
    |(simp_all;done)
    |(simp_all;omega)
 ·have hn:cs.length≤6:=QbX hE;have hC:QcL (cb,ca,cr,cs)=Q6 Q1 cs:=if_pos hE
  refine QH hT hP (A:=Unit) cs.length (fun i _=>St.mk (E40 (E10 (E5 ((.cell (.ro Qv cs))::(I cs.length)::(I i)::E5 (E3 (E1 [])))))) [])
   (fun k _=>Q6 Q1 (cs.drop k)=Q6 Q1 cs) () (Le.mk [] [] R R R ?_) rfl fun k _ hk hi=>?_
  ·repeat' constructor
  repeat' first|(apply Ea;conv=>whnf)|apply Eb|apply Ec<;>intro _|apply Ed<;>intro _|apply Ee<;>intro _|apply Ef hT hP
  all_goals clear hT hP
  ·rename_i g;have g:(k:Int)<(cs.length:Int):=g;show 0≤(k:Int)∧(k:Int)<(cs.length:Int);omega
  ·rename_i g g2;have g:(k:Int)<(cs.length:Int):=g;have g2:(Q1 (cs.getD k (dflt Qv)) != 0)=true:=g2;refine .k [] [] _ rfl (Qd ?_);show Q1 (cs.getD k (dflt Qv))=QcL (cb,ca,cr,cs);rw[hC,←hi,QaH (dflt Qv) (by omega) (by simpa using g2)]
  ·rename_i g g2;have g:(k:Int)<(cs.length:Int):=g;have g2:(Q1 (cs.getD k (dflt Qv)) != 0)=false:=g2;apply Ex () [] []
   ·repeat' constructor
   ·omega
   ·exact QL (by omega)
   exact(Qa1 (dflt Qv) (by omega) (by simpa using g2)).symm.trans hi
  ·rename_i g;have g:¬(k:Int)<(cs.length:Int):=g;refine .k [] [] _ rfl (Qd ?_);show 0=QcL (cb,ca,cr,cs);rw[hC,←hi,List.drop_of_length_le (by omega)];rfl
 ·have hn:cs.length≤6:=QbX hE;have hC:QcL (cb,ca,cr,cs)=Q6 Q1 cs:=if_pos hE
  refine QH hT hP (A:=Unit) cs.length (fun i _=>St.mk (E40 (E10 (E5 ((.cell (.ro Qv cs))::(I cs.length)::(I i)::E5 (E3 (E1 [])))))) [])
   (fun k _=>Q6 Q1 (cs.drop k)=Q6 Q1 cs) () (Le.mk [] [] R R R ?_) rfl fun k _ hk hi=>?_
  ·repeat' constructor
  repeat' first|(apply Ea;conv=>whnf)|apply Eb|apply Ec<;>intro _|apply Ed<;>intro _|apply Ee<;>intro _|apply Ef hT hP
  all_goals clear hT hP
  ·rename_i g;have g:(k:Int)<(cs.length:Int):=g;show 0≤(k:Int)∧(k:Int)<(cs.length:Int);omega
  ·rename_i g g2;have g:(k:Int)<(cs.length:Int):=g;have g2:(Q1 (cs.getD k (dflt Qv)) != 0)=true:=g2;refine .k [] [] _ rfl (Qd ?_);show Q1 (cs.getD k (dflt Qv))=QcL (cb,ca,cr,cs);rw[hC,←hi,QaH (dflt Qv) (by omega) (by simpa using g2)]
  ·rename_i g g2;have g:(k:Int)<(cs.length:Int):=g;have g2:(Q1 (cs.getD k (dflt Qv)) != 0)=false:=g2;apply Ex () [] []
   ·repeat' constructor
   ·omega
   ·exact QL (by omega)
   exact(Qa1 (dflt Qv) (by omega) (by simpa using g2)).symm.trans hi
  ·rename_i g;have g:¬(k:Int)<(cs.length:Int):=g;refine .k [] [] _ rfl (Qd ?_);show 0=QcL (cb,ca,cr,cs);rw[hC,←hi,List.drop_of_length_le (by omega)];rfl
def Qg8:PSpec:=⟨[⟨false,.sl Qs⟩],fun(l,_)=>(none,I (Qy l),[])⟩
theorem QrP:G0 189 Qg8.spec:=by
 have hP:S0 _:=Qa QvQ (Qb (T:=tree));have hT:=tabs hP Qc;refine Qg8.gd hT hP Tryz.func189 fun(l:List Cyc) _=>?_
 repeat' first|(apply Ea;conv=>whnf)|apply Eb|apply Ec<;>intro _|apply Ed<;>intro _|apply Ee<;>intro _|apply Ef hT hP
 ·rename_i g;have g:(l.length:Int)>8:=g;refine .k [] [] _ rfl (Qd ?_);exact(if_pos (by omega):Qy l=2).symm
 rename_i g0;have g0:¬(l.length:Int)>8:=g0;have hC:Qy l=Q6 QcL l:=if_neg (by omega)
 refine QH hT hP (A:=Unit) l.length (fun i _=>St.mk (E5 (E3 (E1 ((.cell (.ro Qs l))::(I l.length)::(I i)::E5 (E3 (E1 [])))))) [])
  (fun k _=>Q6 QcL (l.drop k)=Q6 QcL l) () (Le.mk [] [] R R R ?_) rfl fun k _ hk hi=>?_
 ·repeat' constructor
 repeat' first|(apply Ea;conv=>whnf)|apply Eb|apply Ec<;>intro _|apply Ed<;>intro _|apply Ee<;>intro _|apply Ef hT hP
 all_goals clear hT hP
 ·rename_i g;have g:(k:Int)<(l.length:Int):=g;show 0≤(k:Int)∧(k:Int)<(l.length:Int);omega
 ·rename_i g g2;have g:(k:Int)<(l.length:Int):=g;have g2:(QcL (l.getD k (dflt Qs)) != 0)=true:=g2;refine .k [] [] _ rfl (Qd ?_);show QcL (l.getD k (dflt Qs))=Qy l;rw[hC,←hi,QaH (dflt Qs) (by omega) (by simpa using g2)]
 ·rename_i g g2;have g:(k:Int)<(l.length:Int):=g;have g2:(QcL (l.getD k (dflt Qs)) != 0)=false:=g2;apply Ex () [] []
  ·repeat' constructor
  ·omega
  ·exact QL (by omega)
  exact(Qa1 (dflt Qs) (by omega) (by simpa using g2)).symm.trans hi
 ·rename_i g;have g:¬(k:Int)<(l.length:Int):=g;refine .k [] [] _ rfl (Qd ?_);show 0=Qy l;rw[hC,←hi,List.drop_of_length_le (by omega)];rfl
theorem QrQ:G0 117 Qg8.spec:=by
 have hP:S0 _:=Qa Qp (Qa Qzi (Qb (T:=tree)));have hT:=tabs hP Qc;refine Qg8.gd hT hP Tryz.func117 fun(l:List Cyc) _=>?_
 repeat' first|(apply Ea;conv=>whnf)|apply Eb|apply Ec<;>intro _|apply Ed<;>intro _|apply Ee<;>intro _|apply Ef hT hP
 ·rename_i g;have g:(l.length:Int)>8:=g;refine .k [] [] _ rfl (Qd ?_);exact(if_pos (by omega):Qy l=2).symm
 rename_i g0;have g0:¬(l.length:Int)>8:=g0;have hC:Qy l=Q6 QcL l:=if_neg (by omega)
 refine QH hT hP (A:=Unit) l.length (fun i _=>St.mk (E10 (E1 ((.cell (.ro Qs l))::(I l.length)::(I i)::E40 (E20 (E5 []))))) [])
  (fun k _=>Q6 QcL (l.drop k)=Q6 QcL l) () (Le.mk [] [] R R R ?_) rfl fun k _ hk hi=>?_
 ·repeat' constructor
 have hH:∀c:Cyc,l.getD k (dflt Qs)=c→QcL c≠0→k<l.length→QcL c=Qy l:=fun c e h hk=>by
  rw[hC,←hi,QaH (dflt Qs) hk (by rw[e];exact h),e]
 have hN:∀c:Cyc,l.getD k (dflt Qs)=c→QcL c=0→k<l.length→Q6 QcL (l.drop (k+1))=Q6 QcL l:=fun c e h hk=>by
  rw[←hi,Qa1 (dflt Qs) hk (by rw[e];exact h)]
 repeat' first|(apply Ea;conv=>whnf)|apply Eb|apply Ec<;>intro _|apply Ed<;>intro _|apply Ee<;>intro _|apply Ef hT hP
 all_goals(try dsimp only[Qf] at *)
 all_goals(generalize hc:l.getD (k:Int).toNat (dflt Qs)=c at *;obtain⟨cb,ca,cr,cs⟩:=c)
 ·show 0≤(k:Int)∧(k:Int)<(l.length:Int);omega
 all_goals first
  |(have hD:∀n:Int,n≠0→Qil (cb,ca,cr,cs)=n→k<l.length→n=Qy l:=fun n hn e hk=>by
     have e2:QcL (cb,ca,cr,cs)=n:=by
      unfold QcL;rw[if_neg (by rw[e];exact hn)];exact e
     rw[←e2];exact hH _ hc (by rw[e2];exact hn) hk
    refine .k [] [] _ rfl (Qd (hD _ (by decide) ?_ (by omega)));clear hT hP hH hN hD;simp[Qil,QO] at *
    first
     |omega
     |(simp_all;done)
     |(simp_all;omega)
     |skip)
  |(have hE:Qil (cb,ca,cr,cs)=0:=by
     clear hT hP hH hN;simp[Qil,QO] at *
     first
      |omega
      |(simp_all;done)
      |(simp_all;omega)
     done)
  |skip
 ·have hn:cs.length≤6:=QbX hE;have hD:QcL (cb,ca,cr,cs)=Q6 Q1 cs:=if_pos hE;have hk2:k<l.length:=by omega
  refine QH hT hP (A:=Unit) cs.length (fun i _=>St.mk (E10 (E1 ((.cell (.ro Qs l))::(I l.length)::(I k)::E40 (E10 (E2 ((.cell (.ro Qv cs))::(I cs.length)::(I i)::E10 [])))))) [])
   (fun j _=>Q6 Q1 (cs.drop j)=Q6 Q1 cs) () (Le.mk [] [] R R R ?_) rfl fun j _ hj hi2=>?_
  ·repeat' constructor
  repeat' first|(apply Ea;conv=>whnf)|apply Eb|apply Ec<;>intro _|apply Ed<;>intro _|apply Ee<;>intro _|apply Ef hT hP
  all_goals clear hT hP
  ·rename_i g;have g:(j:Int)<(cs.length:Int):=g;show 0≤(j:Int)∧(j:Int)<(cs.length:Int);omega
  ·rename_i g g2;have g:(j:Int)<(cs.length:Int):=g;have g2:(Q1 (cs.getD j (dflt Qv)) != 0)=true:=g2;have g3:Q1 (cs.getD j (dflt Qv))≠0:=by simpa using g2
   have e:Q1 (cs.getD j (dflt Qv))=QcL (cb,ca,cr,cs):=by
    rw[hD,←hi2,QaH (dflt Qv) (by omega) g3]
   refine .k [] [] _ rfl (Qd ?_);show Q1 (cs.getD j (dflt Qv))=Qy l;rw[e];exact hH _ hc (by rw[←e];exact g3) hk2
  ·rename_i g g2;have g:(j:Int)<(cs.length:Int):=g;have g2:(Q1 (cs.getD j (dflt Qv)) != 0)=false:=g2;apply Ex () [] []
   ·repeat' constructor
   ·omega
   ·exact QL (by omega)
   exact(Qa1 (dflt Qv) (by omega) (by simpa using g2)).symm.trans hi2
  ·rename_i g;have g:¬(j:Int)<(cs.length:Int):=g
   have e:QcL (cb,ca,cr,cs)=0:=by
    rw[hD,←hi2,List.drop_of_length_le (by omega)];rfl
   apply Ex () [] []
   ·repeat' constructor
   ·omega
   ·exact QL (by omega)
   exact hN _ hc e hk2
 ·have hn:cs.length≤6:=QbX hE;have hD:QcL (cb,ca,cr,cs)=Q6 Q1 cs:=if_pos hE;have hk2:k<l.length:=by omega
  refine QH hT hP (A:=Unit) cs.length (fun i _=>St.mk (E10 (E1 ((.cell (.ro Qs l))::(I l.length)::(I k)::E40 (E10 (E2 ((.cell (.ro Qv cs))::(I cs.length)::(I i)::E10 [])))))) [])
   (fun j _=>Q6 Q1 (cs.drop j)=Q6 Q1 cs) () (Le.mk [] [] R R R ?_) rfl fun j _ hj hi2=>?_
  ·repeat' constructor
  repeat' first|(apply Ea;conv=>whnf)|apply Eb|apply Ec<;>intro _|apply Ed<;>intro _|apply Ee<;>intro _|apply Ef hT hP
  all_goals clear hT hP
  ·rename_i g;have g:(j:Int)<(cs.length:Int):=g;show 0≤(j:Int)∧(j:Int)<(cs.length:Int);omega
  ·rename_i g g2;have g:(j:Int)<(cs.length:Int):=g;have g2:(Q1 (cs.getD j (dflt Qv)) != 0)=true:=g2;have g3:Q1 (cs.getD j (dflt Qv))≠0:=by simpa using g2
   have e:Q1 (cs.getD j (dflt Qv))=QcL (cb,ca,cr,cs):=by
    rw[hD,←hi2,QaH (dflt Qv) (by omega) g3]
   refine .k [] [] _ rfl (Qd ?_);show Q1 (cs.getD j (dflt Qv))=Qy l;rw[e];exact hH _ hc (by rw[←e];exact g3) hk2
  ·rename_i g g2;have g:(j:Int)<(cs.length:Int):=g;have g2:(Q1 (cs.getD j (dflt Qv)) != 0)=false:=g2;apply Ex () [] []
   ·repeat' constructor
   ·omega
   ·exact QL (by omega)
   exact(Qa1 (dflt Qv) (by omega) (by simpa using g2)).symm.trans hi2
  ·rename_i g;have g:¬(j:Int)<(cs.length:Int):=g
   have e:QcL (cb,ca,cr,cs)=0:=by
    rw[hD,←hi2,List.drop_of_length_le (by omega)];rfl
   apply Ex () [] []
   ·repeat' constructor
   ·omega
   ·exact QL (by omega)
   exact hN _ hc e hk2
 ·have hn:cs.length≤6:=QbX hE;have hD:QcL (cb,ca,cr,cs)=Q6 Q1 cs:=if_pos hE;have hk2:k<l.length:=by omega
  refine QH hT hP (A:=Unit) cs.length (fun i _=>St.mk (E10 (E1 ((.cell (.ro Qs l))::(I l.length)::(I k)::E40 (E10 (E2 ((.cell (.ro Qv cs))::(I cs.length)::(I i)::E10 [])))))) [])
   (fun j _=>Q6 Q1 (cs.drop j)=Q6 Q1 cs) () (Le.mk [] [] R R R ?_) rfl fun j _ hj hi2=>?_
  ·repeat' constructor
  repeat' first|(apply Ea;conv=>whnf)|apply Eb|apply Ec<;>intro _|apply Ed<;>intro _|apply Ee<;>intro _|apply Ef hT hP
  all_goals clear hT hP
  ·rename_i g;have g:(j:Int)<(cs.length:Int):=g;show 0≤(j:Int)∧(j:Int)<(cs.length:Int);omega
  ·rename_i g g2;have g:(j:Int)<(cs.length:Int):=g;have g2:(Q1 (cs.getD j (dflt Qv)) != 0)=true:=g2;have g3:Q1 (cs.getD j (dflt Qv))≠0:=by simpa using g2
   have e:Q1 (cs.getD j (dflt Qv))=QcL (cb,ca,cr,cs):=by
    rw[hD,←hi2,QaH (dflt Qv) (by omega) g3]
   refine .k [] [] _ rfl (Qd ?_);show Q1 (cs.getD j (dflt Qv))=Qy l;rw[e];exact hH _ hc (by rw[←e];exact g3) hk2
  ·rename_i g g2;have g:(j:Int)<(cs.length:Int):=g;have g2:(Q1 (cs.getD j (dflt Qv)) != 0)=false:=g2;apply Ex () [] []
   ·repeat' constructor
   ·omega
   ·exact QL (by omega)
   exact(Qa1 (dflt Qv) (by omega) (by simpa using g2)).symm.trans hi2
  ·rename_i g;have g:¬(j:Int)<(cs.length:Int):=g
   have e:QcL (cb,ca,cr,cs)=0:=by
    rw[hD,←hi2,List.drop_of_length_le (by omega)];rfl
   apply Ex () [] []
   ·repeat' constructor
   ·omega
   ·exact QL (by omega)
   exact hN _ hc e hk2
 ·have hn:cs.length≤6:=QbX hE;have hD:QcL (cb,ca,cr,cs)=Q6 Q1 cs:=if_pos hE;have hk2:k<l.length:=by omega
  refine QH hT hP (A:=Unit) cs.length (fun i _=>St.mk (E10 (E1 ((.cell (.ro Qs l))::(I l.length)::(I k)::E40 (E10 (E2 ((.cell (.ro Qv cs))::(I cs.length)::(I i)::E10 [])))))) [])
   (fun j _=>Q6 Q1 (cs.drop j)=Q6 Q1 cs) () (Le.mk [] [] R R R ?_) rfl fun j _ hj hi2=>?_
  ·repeat' constructor
  repeat' first|(apply Ea;conv=>whnf)|apply Eb|apply Ec<;>intro _|apply Ed<;>intro _|apply Ee<;>intro _|apply Ef hT hP
  all_goals clear hT hP
  ·rename_i g;have g:(j:Int)<(cs.length:Int):=g;show 0≤(j:Int)∧(j:Int)<(cs.length:Int);omega
  ·rename_i g g2;have g:(j:Int)<(cs.length:Int):=g;have g2:(Q1 (cs.getD j (dflt Qv)) != 0)=true:=g2;have g3:Q1 (cs.getD j (dflt Qv))≠0:=by simpa using g2
   have e:Q1 (cs.getD j (dflt Qv))=QcL (cb,ca,cr,cs):=by
    rw[hD,←hi2,QaH (dflt Qv) (by omega) g3]
   refine .k [] [] _ rfl (Qd ?_);show Q1 (cs.getD j (dflt Qv))=Qy l;rw[e];exact hH _ hc (by rw[←e];exact g3) hk2
  ·rename_i g g2;have g:(j:Int)<(cs.length:Int):=g;have g2:(Q1 (cs.getD j (dflt Qv)) != 0)=false:=g2;apply Ex () [] []
   ·repeat' constructor
   ·omega
   ·exact QL (by omega)
   exact(Qa1 (dflt Qv) (by omega) (by simpa using g2)).symm.trans hi2
  ·rename_i g;have g:¬(j:Int)<(cs.length:Int):=g
   have e:QcL (cb,ca,cr,cs)=0:=by
    rw[hD,←hi2,List.drop_of_length_le (by omega)];rfl
   apply Ex () [] []
   ·repeat' constructor
   ·omega
   ·exact QL (by omega)
   exact hN _ hc e hk2
 ·have hn:cs.length≤6:=QbX hE;have hD:QcL (cb,ca,cr,cs)=Q6 Q1 cs:=if_pos hE;have hk2:k<l.length:=by omega
  refine QH hT hP (A:=Unit) cs.length (fun i _=>St.mk (E10 (E1 ((.cell (.ro Qs l))::(I l.length)::(I k)::E40 (E10 (E2 ((.cell (.ro Qv cs))::(I cs.length)::(I i)::E10 [])))))) [])
   (fun j _=>Q6 Q1 (cs.drop j)=Q6 Q1 cs) () (Le.mk [] [] R R R ?_) rfl fun j _ hj hi2=>?_
  ·repeat' constructor
  repeat' first|(apply Ea;conv=>whnf)|apply Eb|apply Ec<;>intro _|apply Ed<;>intro _|apply Ee<;>intro _|apply Ef hT hP
  all_goals clear hT hP
  ·rename_i g;have g:(j:Int)<(cs.length:Int):=g;show 0≤(j:Int)∧(j:Int)<(cs.length:Int);omega
  ·rename_i g g2;have g:(j:Int)<(cs.length:Int):=g;have g2:(Q1 (cs.getD j (dflt Qv)) != 0)=true:=g2;have g3:Q1 (cs.getD j (dflt Qv))≠0:=by simpa using g2
   have e:Q1 (cs.getD j (dflt Qv))=QcL (cb,ca,cr,cs):=by
    rw[hD,←hi2,QaH (dflt Qv) (by omega) g3]
   refine .k [] [] _ rfl (Qd ?_);show Q1 (cs.getD j (dflt Qv))=Qy l;rw[e];exact hH _ hc (by rw[←e];exact g3) hk2
  ·rename_i g g2;have g:(j:Int)<(cs.length:Int):=g;have g2:(Q1 (cs.getD j (dflt Qv)) != 0)=false:=g2;apply Ex () [] []
   ·repeat' constructor
   ·omega
   ·exact QL (by omega)
   exact(Qa1 (dflt Qv) (by omega) (by simpa using g2)).symm.trans hi2
  ·rename_i g;have g:¬(j:Int)<(cs.length:Int):=g
   have e:QcL (cb,ca,cr,cs)=0:=by
    rw[hD,←hi2,List.drop_of_length_le (by omega)];rfl
   apply Ex () [] []
   ·repeat' constructor
   ·omega
   ·exact QL (by omega)
   exact hN _ hc e hk2
 ·have hn:cs.length≤6:=QbX hE;have hD:QcL (cb,ca,cr,cs)=Q6 Q1 cs:=if_pos hE;have hk2:k<l.length:=by omega
  refine QH hT hP (A:=Unit) cs.length (fun i _=>St.mk (E10 (E1 ((.cell (.ro Qs l))::(I l.length)::(I k)::E40 (E10 (E2 ((.cell (.ro Qv cs))::(I cs.length)::(I i)::E10 [])))))) [])
   (fun j _=>Q6 Q1 (cs.drop j)=Q6 Q1 cs) () (Le.mk [] [] R R R ?_) rfl fun j _ hj hi2=>?_
  ·repeat' constructor
  repeat' first|(apply Ea;conv=>whnf)|apply Eb|apply Ec<;>intro _|apply Ed<;>intro _|apply Ee<;>intro _|apply Ef hT hP
  all_goals clear hT hP
  ·rename_i g;have g:(j:Int)<(cs.length:Int):=g;show 0≤(j:Int)∧(j:Int)<(cs.length:Int);omega
  ·rename_i g g2;have g:(j:Int)<(cs.length:Int):=g;have g2:(Q1 (cs.getD j (dflt Qv)) != 0)=true:=g2;have g3:Q1 (cs.getD j (dflt Qv))≠0:=by simpa using g2
   have e:Q1 (cs.getD j (dflt Qv))=QcL (cb,ca,cr,cs):=by
    rw[hD,←hi2,QaH (dflt Qv) (by omega) g3]
   refine .k [] [] _ rfl (Qd ?_);show Q1 (cs.getD j (dflt Qv))=Qy l;rw[e];exact hH _ hc (by rw[←e];exact g3) hk2
  ·rename_i g g2;have g:(j:Int)<(cs.length:Int):=g;have g2:(Q1 (cs.getD j (dflt Qv)) != 0)=false:=g2;apply Ex () [] []
   ·repeat' constructor
   ·omega
   ·exact QL (by omega)
   exact(Qa1 (dflt Qv) (by omega) (by simpa using g2)).symm.trans hi2
  ·rename_i g;have g:¬(j:Int)<(cs.length:Int):=g
   have e:QcL (cb,ca,cr,cs)=0:=by
    rw[hD,←hi2,List.drop_of_length_le (by omega)];rfl
   apply Ex () [] []
   ·repeat' constructor
   ·omega
   ·exact QL (by omega)
   exact hN _ hc e hk2
 ·rename_i g;have g:¬(k:Int)<(l.length:Int):=by assumption
  refine .k [] [] _ rfl (Qd ?_);show 0=Qy l;rw[hC,←hi,List.drop_of_length_le (by omega)];rfl
def QiR(x y:Ins):Bool:=bif Qm y.2.1 x.2.1 then decide (y.2.2.1=x.2.2.1) else false
def QDo:List V1→List Blk→Option (Ins×Ins):=fun a b=>match a,b with
 | [.agg [.imm (.int .i64 eo),.imm (.string en),.imm (.int .i64 em),.ro (.pair (.int .i64) (.pair (.int .i64) (.pair (.int .i64) (.sl (.pair (.int .i64) (.pair (.int .i64) (.pair (.int .i64) (.int .i64)))))))) ec],.c (.ptr 0 0)],[.var [.imm (.int .i64 co),.imm (.string cn),.imm (.int .i64 cm),.ro (.pair (.int .i64) (.pair (.int .i64) (.pair (.int .i64) (.sl (.pair (.int .i64) (.pair (.int .i64) (.pair (.int .i64) (.int .i64)))))))) cc]]=>some ((eo,en,em,ec),(co,cn,cm,cc))
 |_,_=>none
theorem Qzj{a:List V1}{b:List Blk}{x:Ins×Ins}(h:QDo a b=some x):a=[.agg [iv .i64 x.1.1,.imm (.string x.1.2.1),iv .i64 x.1.2.2.1,.ro Qs x.1.2.2.2],.c (.ptr 0 0)]∧b=[.var [iv .i64 x.2.1,.imm (.string x.2.2.1),iv .i64 x.2.2.2.1,.ro Qs x.2.2.2.2]]:=by
 unfold QDo at h;split at h
 ·injection h with h;subst h;exact⟨rfl,rfl⟩
 ·cases h
def QJ9:WSpec:=⟨Ins×Ins,fun x=>[.agg [iv .i64 x.1.1,.imm (.string x.1.2.1),iv .i64 x.1.2.2.1,.ro Qs x.1.2.2.2],.c (.ptr 0 0)],fun x=>[.var [iv .i64 x.2.1,.imm (.string x.2.2.1),iv .i64 x.2.2.2.1,.ro Qs x.2.2.2.2]],QDo,
 fun x=>(some ((fun _=>True) x.2),.cell (bv (QiR x.2 x.1)),[some (.var [iv .i64 x.2.1,.imm (.string x.2.2.1),iv .i64 x.2.2.2.1,.ro Qs x.2.2.2.2])],[])⟩
theorem QGg:G0 188 QJ9.spec:=by
 have hP:S0 _:=(Qb (T:=tree))
 have hT:=tabs hP Qc;refine QJ9.gd hT hP Tryz.func188 (fun _ _ _ h=>Qzj h) fun(x:Ins×Ins) hq=>?_
 have hq:(fun _=>True) x.2:=hq _ rfl
 repeat' first|(apply Ea;conv=>whnf)|apply Eb|apply Ec<;>intro _|apply Ed<;>intro _|apply Ee<;>intro _|apply Ef hT hP
 all_goals clear hT hP
 all_goals first
  |(rename_i g
    have g:Qm x.1.2.1 x.2.2.1=true:=g;refine .k [] [0] _ rfl (Qi ?_);show _=bif Qm x.1.2.1 x.2.2.1 then decide (x.1.2.2.1=x.2.2.2.1) else false
    rw[g];rfl)
  |(rename_i g
    have g:Qm x.1.2.1 x.2.2.1=false:=g;refine .k [] [0] _ rfl (Qi ?_);show _=bif Qm x.1.2.1 x.2.2.1 then decide (x.1.2.2.1=x.2.2.2.1) else false
    rw[g];rfl)
  |skip
structure tkX where
 l:List Ins
 d:Ins
def QHh:List V1→List Blk→Option tkX:=fun a b=>match a,b with
 | [.c (.ro (.pair (.int .i64) (.pair .str (.pair (.int .i64) (.sl (.pair (.int .i64) (.pair (.int .i64) (.pair (.int .i64) (.sl (.pair (.int .i64) (.pair (.int .i64) (.pair (.int .i64) (.int .i64))))))))))))  l),.c (.fn 188 [0])],[.var [.imm (.int .i64 co),.imm (.string cn),.imm (.int .i64 cm),.ro (.pair (.int .i64) (.pair (.int .i64) (.pair (.int .i64) (.sl (.pair (.int .i64) (.pair (.int .i64) (.pair (.int .i64) (.int .i64)))))))) cc]]=>some ⟨l,(co,cn,cm,cc)⟩
 |_,_=>none
theorem QvR{a:List V1}{b:List Blk}{x:tkX}(h:QHh a b=some x):a=[.c (.ro QaA x.l),.c (.fn 188 [0])]∧b=[.var [iv .i64 x.d.1,.imm (.string x.d.2.1),iv .i64 x.d.2.2.1,.ro Qs x.d.2.2.2]]:=by
 unfold QHh at h;split at h
 ·injection h with h;subst h;exact⟨rfl,rfl⟩
 ·cases h
def QKa:WSpec:=⟨tkX,fun x=>[.c (.ro QaA x.l),.c (.fn 188 [0])],fun x=>[.var [iv .i64 x.d.1,.imm (.string x.d.2.1),iv .i64 x.d.2.2.1,.ro Qs x.d.2.2.2]],QHh,
 fun x=>(some (x.l.length≤4611686018427387904∧(fun _=>True) x.d),I (QbP (QiR x.d) x.l),[some (.var [iv .i64 x.d.1,.imm (.string x.d.2.1),iv .i64 x.d.2.2.1,.ro Qs x.d.2.2.2])],[])⟩
theorem QGh:G0 145 QKa.spec:=by
 have hP:S0 _:=Qa QGg (Qb (T:=tree));have hT:=tabs hP Qc;refine QKa.gd hT hP Tryz.func145 (fun _ _ _ h=>QvR h) fun(x:tkX) hq=>?_
 obtain⟨hl,hq⟩:x.l.length≤4611686018427387904∧(fun _=>True) x.d:=hq _ rfl;obtain⟨l,d⟩:=x;have hl:l.length≤4611686018427387904:=hl
 repeat' first|(apply Ea;conv=>whnf)|apply Eb|apply Ec<;>intro _|apply Ed<;>intro _|apply Ee<;>intro _|apply Ef hT hP
 refine QH hT hP (A:=Unit) l.length (fun i _=>St.mk ((.cell (.ro QaA l))::(.cell (.fn 188 [0]))::E5 ((I l.length)::(I i)::E10 [])) [some (.var [iv .i64 d.1,.imm (.string d.2.1),iv .i64 d.2.2.1,.ro Qs d.2.2.2])])
  (fun k _=>QdH (QiR d) (l.drop k) k=QbP (QiR d) l) () (Le.mk [] [0] R R R ?_) rfl fun k _ hk hi=>?_
 ·repeat' constructor
 repeat' first|(apply Ea;conv=>whnf)|apply Eb|apply Ec<;>intro _|apply Ed<;>intro _|apply Ee<;>intro _|apply Ef hT hP
 all_goals clear hT hP
 ·rename_i g1;have g1:(k:Int)<(l.length:Int):=g1;show 0≤(k:Int)∧(k:Int)<(l.length:Int);omega
 ·first|exact hq|exact trivial
 ·rename_i g1 g2;have g1:(k:Int)<(l.length:Int):=g1;exact .k [] [0] _ rfl (Qd (Qdz (dflt QaA) (by omega) g2 hi))
 ·rename_i g1 g2;have g1:(k:Int)<(l.length:Int):=g1
  have hp:¬QiR d (l.getD k (dflt QaA))=true:=by
   have g2:QiR d (l.getD k (dflt QaA))=false:=g2;rw[g2];decide
  apply Ex () [] [0]
  ·repeat' constructor
  ·omega
  ·exact QL (by omega)
  exact Qbq (dflt QaA) (by omega) hp hi
 ·rename_i g1;have g1:¬(k:Int)<(l.length:Int):=g1;exact .k [] [0] _ rfl (Qd (QcJ (by omega) hi))
def QKb:WSpec:=⟨tkX,fun x=>[.c (.ro QaA x.l),.c (.fn 188 [0])],fun x=>[.var [iv .i64 x.d.1,.imm (.string x.d.2.1),iv .i64 x.d.2.2.1,.ro Qs x.d.2.2.2]],QHh,
 fun x=>(some (x.l.length≤4611686018427387904∧(fun _=>True) x.d),.cell (bv (x.l.any (QiR x.d))),[some (.var [iv .i64 x.d.1,.imm (.string x.d.2.1),iv .i64 x.d.2.2.1,.ro Qs x.d.2.2.2])],[])⟩
theorem QGi:G0 187 QKb.spec:=by
 have hP:S0 _:=Qa QGh (Qb (T:=tree));have hT:=tabs hP Qc;refine QKb.gd hT hP Tryz.func187 (fun _ _ _ h=>QvR h) fun(x:tkX) hq=>?_
 have hq:x.l.length≤4611686018427387904∧(fun _=>True) x.d:=hq _ rfl;obtain⟨l,d⟩:=x
 repeat' first|(apply Ea;conv=>whnf)|apply Eb|apply Ec<;>intro _|apply Ed<;>intro _|apply Ee<;>intro _|apply Ef hT hP
 all_goals clear hT hP
 ·first|exact hq|exact trivial
 ·exact .k [] [0] _ rfl (Qi (Qia (QiR d) l))
def Qe6(c:Cyc):Bool:=bif decide (c.1=1) then decide (c.2.1=0) else false
def QiS(l:List Cyc):Int:=((l.filter Qe6).length:Nat)
theorem Qa8{α:Type}{l:List α}{k:Nat}(d:α)(h:k<l.length):l.take (k+1)=l.take k++[l.getD k d]:=by
 rw[List.take_add_one,List.getD_eq_getElem?_getD,List.getElem?_eq_getElem h];rfl
theorem QkK{l:List Cyc}{k:Nat}(h:k<l.length)(h2:Qe6 (l.getD k (dflt Qs))=true):((l.take k).filter Qe6).length+1=((l.take (k+1)).filter Qe6).length:=by
 rw[Qa8 (dflt Qs) h,List.filter_append,List.filter_cons,if_pos h2,List.length_append];rfl
theorem Qgr{l:List Cyc}{k:Nat}(h:k<l.length)(h2:Qe6 (l.getD k (dflt Qs))=false):((l.take k).filter Qe6).length=((l.take (k+1)).filter Qe6).length:=by
 rw[Qa8 (dflt Qs) h,List.filter_append,List.filter_cons,if_neg (by rw[h2];decide),List.length_append];rfl
def QA0:PSpec:=⟨[⟨false,.sl Qs⟩],fun(l,_)=>(some (List.length l≤1000),I (QiS l),[])⟩
theorem Qzk:G0 190 QA0.spec:=by
 have hP:S0 _:=(Qb (T:=tree))
 have hT:=tabs hP Qc;refine QA0.gd hT hP Tryz.func190 fun(l:List Cyc) hq=>?_
 have hl:l.length≤1000:=hq _ rfl;clear hq
 repeat' first|(apply Ea;conv=>whnf)|apply Eb|apply Ec<;>intro _|apply Ed<;>intro _|apply Ee<;>intro _|apply Ef hT hP
 refine QH hT hP (A:=Int) l.length (fun i n=>St.mk (E3 ((I n)::E2 ((.cell (.ro Qs l))::(I l.length)::(I i)::E10 (E5 [])))) [])
  (fun k n=>n=(((l.take k).filter Qe6).length:Nat)) 0 (Le.mk [] [] R R R ?_) rfl fun k n hk hi=>?_
 ·repeat' constructor
 repeat' first|(apply Ea;conv=>whnf)|apply Eb|apply Ec<;>intro _|apply Ed<;>intro _|apply Ee<;>intro _|apply Ef hT hP
 all_goals clear hT hP
 all_goals have hf:=List.length_filter_le Qe6 (l.take k)
 all_goals rw[List.length_take] at hf
 ·rename_i g;have g:(k:Int)<(l.length:Int):=g;show 0≤(k:Int)∧(k:Int)<(l.length:Int);omega
 ·rename_i g g1 g2;have g:(k:Int)<(l.length:Int):=g
  have h2:Qe6 (l.getD k (dflt Qs))=true:=by
   have g1:(l.getD k (dflt Qs)).1=1:=g1;have g2:(l.getD k (dflt Qs)).2.1=0:=g2;unfold Qe6;rw[decide_eq_true g1,decide_eq_true g2];rfl
  apply Ex _ [] []
  ·repeat' constructor
  ·omega
  ·exact QL (by omega)
  have e:IntKind.i64.wrap (n+1)=n+1:=w64 (by omega) (by omega);have e2:=QkK (show k<l.length by omega) h2;rw[e];omega
 ·rename_i g g1 g2;have g:(k:Int)<(l.length:Int):=g
  have h2:Qe6 (l.getD k (dflt Qs))=false:=by
   have g1:(l.getD k (dflt Qs)).1=1:=g1;have g2:¬(l.getD k (dflt Qs)).2.1=0:=g2;unfold Qe6;rw[decide_eq_true g1,decide_eq_false g2];rfl
  apply Ex _ [] []
  ·repeat' constructor
  ·omega
  ·exact QL (by omega)
  have e2:=Qgr (show k<l.length by omega) h2;omega
 ·rename_i g g1;have g:(k:Int)<(l.length:Int):=g
  have h2:Qe6 (l.getD k (dflt Qs))=false:=by
   have g1:¬(l.getD k (dflt Qs)).1=1:=g1;unfold Qe6;rw[decide_eq_false g1];rfl
  apply Ex _ [] []
  ·repeat' constructor
  ·omega
  ·exact QL (by omega)
  have e2:=Qgr (show k<l.length by omega) h2;omega
 ·rename_i g;have g:¬(k:Int)<(l.length:Int):=g;refine .k [] [] _ rfl (Qd ?_);rw[hi,List.take_of_length_le (by omega)];rfl
theorem Qmr{f:Cv→Dv→Int}{cs:List Cv}{ds:List Dv}{k:Nat}(h:cs.length=ds.length)(hk:k<cs.length):List.zipWith f (cs.take k) (ds.take k)++[f (cs.getD k (dflt Qe)) (ds.getD k (dflt Qj))]=List.zipWith f (cs.take (k+1)) (ds.take (k+1)):=by
 rw[Qa8 (dflt Qe) hk,Qa8 (dflt Qj) (show k<ds.length by omega),List.zipWith_append (by rw[List.length_take,List.length_take];omega)];rfl
def QGj(b:Bd)(m:Mach):Prop:=b.2.2.1.length=m.2.2.1.length∧b.2.2.1.length*64≤140737488351232∧(∀c∈b.2.2.1,cP c)∧∀d∈m.2.2.1,dP d
def QGk:PSpec:=⟨[gBd,gM],fun(b,m,_)=>(some (QGj b m),.cell (.own 0),[.arr (.int .i64) (List.zipWith Qal b.2.2.1 m.2.2.1)])⟩
theorem Qzl:G0 130 QGk.spec:=by
 have hP:S0 _:=Qa Qux (Qb (T:=tree));have hT:=tabs hP Qc;refine QGk.gd hT hP Tryz.func130 fun(b:Bd) (m:Mach) hq=>?_
 obtain⟨hln,hl,hc,hd⟩:QGj b m:=hq _ rfl;clear hq;obtain⟨bn,⟨un,ui,ur,uq,um⟩,bc,bw⟩:=b;obtain⟨tm,⟨r,op,at_,nmi⟩,ds,bd,ba,bdt⟩:=m;have hln:bc.length=ds.length:=hln;have hl:bc.length*64≤140737488351232:=hl;have hc:∀c∈bc,cP c:=hc;have hd:∀d∈ds,dP d:=hd
 repeat' first|(apply Ea;conv=>whnf)|apply Eb|apply Ec<;>intro _|apply Ed<;>intro _|apply Ee<;>intro _|apply Ef hT hP
 refine QH hT hP (A:=List Int) bc.length (fun i o=>St.mk (E3 ((.cell (.ptr 0 0))::E1 ((.cell (.own 1))::E3 ((.cell (.ro Qe bc))::(I bc.length)::(I i)::E10 (E5 (E1 []))))))
  [some (.var [.imm (.int .i64 tm),.run .i64 9 r,.imm (.int .i64 op),.imm (.int .i64 at_),.imm (.bool nmi),.ro Qj ds,.imm (.int .i64 bd),.imm (.int .i64 ba),.imm (.int .i64 bdt)]),some (.arr (.int .i64) o)])
  (fun k o=>o=List.zipWith Qal (bc.take k) (ds.take k)) [] (.trans (Le.nil 5 (.int .i64) rfl) (Le.k [] [1,2] ?_)) rfl fun k o hk hi=>?_
 ·repeat' constructor
 repeat' first|(apply Ea;conv=>whnf)|apply Eb|apply Ec<;>intro _|apply Ed<;>intro _|apply Ee<;>intro _|apply Ef hT hP
 all_goals(try dsimp only[Qf] at *)
 all_goals clear hT hP
 ·rename_i g;have g:(k:Int)<(bc.length:Int):=g;show 0≤(k:Int)∧(k:Int)<(bc.length:Int);omega
 ·rename_i g;have g:(k:Int)<(bc.length:Int):=g;show 0≤(k:Int)∧(k:Int)<(ds.length:Int);omega
 ·rename_i g;have g:(k:Int)<(bc.length:Int):=g;exact⟨hc _ (QG (dflt Qe) (show k<bc.length by omega)),hd _ (QG (dflt Qj) (show k<ds.length by omega))⟩
 ·rename_i g;have g:(k:Int)<(bc.length:Int):=g;have hz:o.length≤bc.length:=by rw[hi,List.length_zipWith,List.length_take];omega
  show(o.length+1)*8≤140737488355328;omega
 ·rename_i g;have g:(k:Int)<(bc.length:Int):=g;apply Ex _ [] [0,4]
  ·repeat' constructor
  ·omega
  ·exact QL (by omega)
  rw[hi];exact Qmr hln (by omega)
 ·rename_i g;have g:¬(k:Int)<(bc.length:Int):=g;have e:o=List.zipWith Qal bc ds:=by rw[hi,List.take_of_length_le (by omega),List.take_of_length_le (by omega)]
  subst e;exact .k [] [1] _ R R
theorem Qjp(hs:List Bool)(cs:List Cv):Qbw hs cs []=false:=by
 cases hs with
 |nil=>rfl
 |cons h hs=>cases cs<;>rfl
theorem Qcw{hs:List Bool}{cs:List Cv}{ds:List Dv}{k:Nat}(hl:hs.length=cs.length)(hk:k<cs.length):Qbw (hs.drop k) (cs.drop k) (ds.drop k) =
 ((hs.getD k false&&(decide (k<ds.length)&&Qaz (cs.getD k (dflt Qe)) (ds.getD k (dflt Qj))))||Qbw (hs.drop (k+1)) (cs.drop (k+1)) (ds.drop (k+1))):=by
 have e1:hs.drop k=hs.getD k false::hs.drop (k+1):=by rw[List.drop_eq_getElem_cons (show k<hs.length by omega),List.getD_eq_getElem?_getD,List.getElem?_eq_getElem (show k<hs.length by omega)];rfl
 have e2:cs.drop k=cs.getD k (dflt Qe)::cs.drop (k+1):=by rw[List.drop_eq_getElem_cons hk,List.getD_eq_getElem?_getD,List.getElem?_eq_getElem hk];rfl
 by_cases h:k<ds.length
 ·have e3:ds.drop k=ds.getD k (dflt Qj)::ds.drop (k+1):=by rw[List.drop_eq_getElem_cons h,List.getD_eq_getElem?_getD,List.getElem?_eq_getElem h];rfl
  rw[e1,e2,e3,decide_eq_true h];rfl
 ·rw[show ds.drop k=[] from List.drop_of_length_le (by omega),show ds.drop (k+1)=[] from List.drop_of_length_le (by omega),decide_eq_false h,Qjp,Qjp];simp
theorem Qjq{hs:List Bool}{cs:List Cv}{ds:List Dv}{k:Nat}(hl:hs.length=cs.length)(hk:¬k<cs.length):Qbw (hs.drop k) (cs.drop k) (ds.drop k)=false:=by
 rw[show hs.drop k=[] from List.drop_of_length_le (by omega)];rfl
def QDp(b:Bd)(m:Mach):Prop:=bdP b∧∀d∈m.2.2.1,dP d
def QA1:PSpec:=⟨[gBd,gM],fun(b,m,_)=>(some (QDp b m),.cell (bv (Qz b m.2.2.1)),[])⟩
theorem Qp6:G0 20 QA1.spec:=by
 have hP:S0 _:=Qa Qvl (Qa QCG (Qb (T:=tree)));have hT:=tabs hP Qc;refine QA1.gd hT hP Tryz.func20 fun(b:Bd) (m:Mach) hq=>?_
 obtain⟨hb,hd⟩:QDp b m:=hq _ rfl;clear hq;have hE:Qz b m.2.2.1=Qbw (Qbj b.2.2.2 b.2.2.1) b.2.2.1 m.2.2.1:=rfl;have hc:=hb.2;have hl:=hb.1.1;have hhl:=Qde b.2.2.2 b.2.2.1;have hH:∃h,h=Qbj b.2.2.2 b.2.2.1:=⟨_,rfl⟩
 obtain⟨bn,⟨un,ui,ur,uq,um⟩,bc,bw⟩:=b;obtain⟨tm,⟨r,op,at_,nmi⟩,ds,bd,ba,bdt⟩:=m;have hE:Qz (bn,(un,ui,ur,uq,um),bc,bw) ds=Qbw (Qbj bw bc) bc ds:=hE;have hc:∀c∈bc,cP c∧c.1.size≤140737488351232:=hc;have hl:bc.length*64≤140737488351232:=hl;have hd:∀d∈ds,dP d:=hd;have hhl:(Qbj bw bc).length=bc.length:=hhl
 repeat' first|(apply Ea;conv=>whnf)|apply Eb|apply Ec<;>intro _|apply Ed<;>intro _|apply Ee<;>intro _|apply Ef hT hP
 all_goals(try dsimp only[Qf] at *)
 ·exact hb
 generalize hh:Qbj bw bc=hs at *;rw[hhl]
 refine QH hT hP (A:=Unit) bc.length (fun i _=>St.mk (E2 ((.cell (.ptr 0 0))::(.cell (.ptr 1 0))::E3 (E1 ((.cell (.own 2))::(I bc.length)::(I i)::E20 (E5 (E1 []))))))
  [some (.var [.imm (.string bn),.imm (.string un),.ro QaA ui,.ro Qs ur,.ro Qs uq,.ro Qs um,.ro Qe bc,.ro Qr bw]),
   some (.var [.imm (.int .i64 tm),.run .i64 9 r,.imm (.int .i64 op),.imm (.int .i64 at_),.imm (.bool nmi),.ro Qj ds,.imm (.int .i64 bd),.imm (.int .i64 ba),.imm (.int .i64 bdt)]),some (.arr .bool hs)])
  (fun k _=>Qbw (hs.drop k) (bc.drop k) (ds.drop k)=Qbw hs bc ds) () (Le.k [] [0,1,2] ?_) rfl fun k _ hk hi=>?_
 ·repeat' constructor
 repeat' first|(apply Ea;conv=>whnf)|apply Eb|apply Ec<;>intro _|apply Ed<;>intro _|apply Ee<;>intro _|apply Ef hT hP
 all_goals(try dsimp only[Qf] at *)
 all_goals clear hT hP
 ·rename_i g;show 0≤(k:Int)∧(k:Int)<(hs.length:Int);have g:(k:Int)<(bc.length:Int):=by assumption
  omega
 ·rename_i g;have g:(k:Int)<(bc.length:Int):=by assumption
  show k<hs.length;omega
 ·have g:(k:Int)<(bc.length:Int):=by assumption
  show 0≤(k:Int)∧(k:Int)<(bc.length:Int);omega
 ·rename_i g g2;have g2:(k:Int)<(ds.length:Int):=by assumption
  show 0≤(k:Int)∧(k:Int)<(ds.length:Int);omega
 ·rename_i g1 g2 g3;have g1:(k:Int)<(bc.length:Int):=g1;have g3:(k:Int)<(ds.length:Int):=g3;exact⟨(hc _ (QG (dflt Qe) (show k<bc.length by omega))).1,hd _ (QG (dflt Qj) (show k<ds.length by omega))⟩
 ·rename_i g1 g2 g3 g4;have g1:(k:Int)<(bc.length:Int):=g1;have g2:hs.getD k (dflt .bool)=true:=g2;have g3:(k:Int)<(ds.length:Int):=g3;have g4:Qaz (bc.getD k (dflt Qe)) (ds.getD k (dflt Qj))=true:=g4;refine .k [] [] _ rfl (Qi ?_);rw[hE,←hi,Qcw hhl (by omega),g4,decide_eq_true (show k<ds.length by omega),show hs.getD k false=true from g2];rfl
 ·rename_i g1 g2 g3 g4;have g1:(k:Int)<(bc.length:Int):=g1;have g4:Qaz (bc.getD k (dflt Qe)) (ds.getD k (dflt Qj))=false:=g4;apply Ex () [] [0,1,2]
  ·repeat' constructor
  ·omega
  ·exact QL (by omega)
  rw[←hi,Qcw (k:=k) hhl (by omega),g4];simp
 ·rename_i g1 g2 g3;have g1:(k:Int)<(bc.length:Int):=g1;have g3:¬(k:Int)<(ds.length:Int):=g3;apply Ex () [] [0,1,2]
  ·repeat' constructor
  ·omega
  ·exact QL (by omega)
  rw[←hi,Qcw (k:=k) hhl (by omega),decide_eq_false (show¬k<ds.length by omega)];simp
 ·rename_i g1 g2;have g1:(k:Int)<(bc.length:Int):=g1;have g2:hs.getD k (dflt .bool)=false:=g2;apply Ex () [] [0,1,2]
  ·repeat' constructor
  ·omega
  ·exact QL (by omega)
  rw[←hi,Qcw (k:=k) hhl (by omega),show hs.getD k false=false from g2];simp
 ·rename_i g1;have g1:¬(k:Int)<(bc.length:Int):=g1;refine .k [] [] _ rfl (Qi ?_);rw[hE,←hi,Qjq hhl (by omega)]
end Go.Proofs.YtofgbclopbmlcaaGreat

