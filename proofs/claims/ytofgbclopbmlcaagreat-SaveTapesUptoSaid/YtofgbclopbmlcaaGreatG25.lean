/- Part 25 of the proof. Conditions: none. -/
import Derived.Test.YtofgbclopbmlcaaGreatG22
import Derived.Test.YtofgbclopbmlcaaGreatG24
import Derived.Test.YtofgbclopbmlcaaGreatG14
import Derived.Test.YtofgbclopbmlcaaGreatG13
import Derived.Test.YtofgbclopbmlcaaGreatG10
import Derived.Test.YtofgbclopbmlcaaGreatG11
namespace Go.Proofs.YtofgbclopbmlcaaGreat
set_option maxHeartbeats 8000000
open Go.Fw
set_option linter.unusedVariables false
set_option linter.unusedSimpArgs false
set_option linter.constructorNameAsVariable false
set_option maxRecDepth 100000
theorem Qz0:G0 91 Qy3.spec:=by
 have g:S0 _:=Qa QrQ (Qb (T:=tree));have p:=tabs g Qc;refine Qy3.gd p g Tryz.func91 fun(m:Mach) hq=>?_
 have hp:QcY m:=hq _ rfl;clear hq;obtain⟨tm,⟨r,op,at_,t⟩,ds,bd,s,c⟩:=m;obtain⟨g1,g2,g3,g4⟩:=hp;have h3:r.length=9:=g3;have J:∀n∈QeK (tm,(r,op,at_,t),ds,bd,s,c),Q1 n:=g1;have H:∀d∈ds,∀n∈d.1,Q1 n:=g2;have O:(ds.map QaR).sum≤1099511627776:=g4;clear g1 g2 g3 g4;have hr:∀n∈r,Q1 n:=fun n K=>J n (by unfold QeK;simp[K])
 have ht:Q1 tm:=J tm (by unfold QeK;simp);have lt:=Qak ht
 repeat' first|(apply Ea;conv=>whnf)|apply Eb|apply Ec|apply Ed|apply Ee|(apply Ei;intro _)|apply Ef p g
 ·exact⟨ht,by simp,fun _=>rfl⟩
 refine QA p g 9 (fun i (o:List Int)=>St.mk (E1 ((.cell (.ptr 0 0))::E1 ((.cell (.own 1))::E10 (E3 (E1 ((.agg [.run .i64 9 r])::(I i)::E40 (E20 (E10 (E1 []))))))))) [some (.var [iv .i64 tm,.run .i64 9 r,iv .i64 op,iv .i64 at_,bv t,.ro Qh ds,iv .i64 bd,iv .i64 s,iv .i64 c]),some (.arr (.int .u8) o)])
  (fun k o=>o=QbO tm++Qz (r.take k)) (QbO tm) (Le.k [] [0,1] ?_) ?_ fun k o hk f=>?_
 ·repeat' constructor
 ·simp[Qz]
 have u:o.length≤100:=by
  rw[f,Ym];have:=Qag hr k;omega
 repeat' first|(apply Ea;conv=>whnf)|apply Eb|apply Ec|apply Ed|apply Ee|(apply Ei;intro _)|apply Ef p g
 all_goals first
  |exact Ya rfl
  |skip
 ·show 0≤(k:Int)∧(k:Int)<((9:Nat):Int);omega
 ·exact⟨hr _ (QaB (l:=r) (k:=k) (by omega)),by show o.length≤_;omega,fun h=>by cases h⟩
 ·apply Ex _ [] [0,2]
  ·repeat' constructor
  ·omega
  ·exact QJ (by omega)
  ·show o++QbO (r.getD k 0)=_;rw[QbQ (by omega),←Yy,←f]
 ·rename_i y P;have y:¬(k:Int)<9:=y;obtain rfl:t=true:=by cases t<;>simp_all
  rw[Yh (by omega)] at f;have G:∀n∈[op,at_,1,bd,s,c,((ds.length:Nat):Int)],Q1 n:=fun n K=>J n (YN.2 (.inr K))
  have F:Qz (QeK (tm,(r,op,at_,true),ds,bd,s,c))=o++Qz [op,at_,1,bd,s,c,((ds.length:Nat):Int)]:=by
   rw[f];unfold QeK;simp only[QdF];rw[Yy,Yy];congr 1;simp[Qz]
  clear f
  refine QA p g 7 (fun i (o:List Int)=>St.mk (E1 ((.cell (.ptr 0 0))::E1 ((.cell (.own 1))::E40 (E3 (E1 ((.cell (.own 2))::(I 7)::(I i)::E40 [])))))) [some (.var [iv .i64 tm,.run .i64 9 r,iv .i64 op,iv .i64 at_,bv true,.ro Qh ds,iv .i64 bd,iv .i64 s,iv .i64 c]),some (.arr (.int .u8) o),some (.arr (.int .i64) [op,at_,1,bd,s,c,((ds.length:Nat):Int)])])
   (fun k o'=>o'=o++Qz ([op,at_,1,bd,s,c,((ds.length:Nat):Int)].take k)) o (Le.k [] [0,1,2] ?_) ?_ fun j o' hj e=>?_
  ·repeat' constructor
  ·simp[Qz]
  have x:o'.length≤200:=by
   rw[e,Ym];have:=Qag G j;simp only[Yx,YU] at this;omega
  repeat' first|(apply Ea;conv=>whnf)|apply Eb|apply Ec|apply Ed|apply Ee|(apply Ei;intro _)|apply Ef p g
  all_goals first
   |exact Ya rfl
   |skip
  ·show 0≤(j:Int)∧(j:Int)<((7:Nat):Int);omega
  ·show j<7;omega
  ·exact⟨G _ (QaB (k:=j) (by show j<7;omega)),by show o'.length≤_;omega,fun h=>by cases h⟩
  ·apply Ex _ [] [0,3,2]
   ·repeat' constructor
   ·omega
   ·exact QJ (by omega)
   ·show o'++QbO (List.getD _ j 0)=_;rw[QbQ (by show j<7;omega),←Yy,←e]
  ·rename_i z;have z:¬(j:Int)<7:=z;rw[Yh (by show 7≤j;omega)] at e;rw[←e] at F;clear e u x G;have U:=QbP J;rw[Qee _ h3,F] at U;have S:=QfP ds
   refine QA p g ds.length (fun i (o:List Int)=>St.mk (E3 ((.cell (.own 0))::E40 (E10 (E5 ((.cell (.ro Qh ds))::(I (ds.length:Int))::(I i)::E20 (E5 (E3 (E1 [])))))))) [some (.arr (.int .u8) o)])
    (fun k o=>o=o'++(ds.take k).flatMap QfO) o' (Le.k [] [1] ?_) ?_ fun k o hk f=>?_
   ·repeat' constructor
   ·simp
   repeat' first|(apply Ea;conv=>whnf)|apply Eb|apply Ec|apply Ed|apply Ee|(apply Ei;intro _)|apply Ef p g
   all_goals first
    |exact Ya rfl
    |skip
   ·rename_i b;have b:(k:Int)<(ds.length:Int):=b;show 0≤(k:Int)∧(k:Int)<(ds.length:Int);omega
   ·rename_i b;have b:(k:Int)<(ds.length:Int):=b;have B:List.getD (α:=Den Qh) ds ((k:Int)).toNat (dflt Qh)∈ds:=Qgv (by omega)
    have u:o.length≤170+(ds.map QaR).sum:=by
     rw[f,Ym];have:=Qbb H O k;omega
    generalize List.getD (α:=Den Qh) ds ((k:Int)).toNat (dflt Qh)=D at *;have w:=QcN B;obtain⟨N,M⟩:=D;have w:10*N.length+M.length+20≤(ds.map QaR).sum:=w;exact⟨by show Q1 ((N.length:Nat):Int);unfold Q1;omega,by show o.length≤_;omega,fun h=>by cases h⟩
   ·rename_i b;have b:(k:Int)<(ds.length:Int):=b;have B:List.getD (α:=Den Qh) ds ((k:Int)).toNat (dflt Qh)∈ds:=Qgv (by omega);have E:(ds.take (k+1)).flatMap QfO=(ds.take k).flatMap QfO++QfO (List.getD (α:=Den Qh) ds ((k:Int)).toNat (dflt Qh)):=Qin (by omega)
    have u:o.length≤170+(ds.map QaR).sum:=by
     rw[f,Ym];have:=Qbb H O k;omega
    generalize List.getD (α:=Den Qh) ds ((k:Int)).toNat (dflt Qh)=D at *;have C:=H D B;have w:=QcN B;obtain⟨N,M⟩:=D;have C:∀n∈N,Q1 n:=C;have w:10*N.length+M.length+20≤(ds.map QaR).sum:=w;have eN:=Qak (n:=((N.length:Nat):Int)) (by unfold Q1;omega);have eM:=Qak (n:=((M.length:Nat):Int)) (by unfold Q1;omega)
    refine QA p g N.length (fun i (o:List Int)=>St.mk (E3 ((.cell (.own 1))::E5 (E1 ((.cell (.ptr 0 0))::E40 (E5 (E3 ((.cell (.ro Qh ds))::(I (ds.length:Int))::(I (k:Int))::E5 (E3 (E1 ((.cell (.ro (.int .i64) N))::(I (N.length:Int))::(I i)::E10 (E5 (E2 [])))))))))))) [some (.var [.ro (.int .i64) N,.ro (.int .u8) M]),some (.arr (.int .u8) o)])
     (fun j o2=>o2=(o++QbO ((N.length:Nat):Int))++Qz (N.take j)) (o++QbO ((N.length:Nat):Int)) (Le.k [] [1,2] ?_) ?_ fun j2 o2 Q q=>?_
    ·repeat' constructor
    ·simp[Qz]
    have L:o2.length≤o.length+10+10*N.length:=by
     rw[q,Ym,Ym];have:=Qag C j2;omega
    repeat' first|(apply Ea;conv=>whnf)|apply Eb|apply Ec|apply Ed|apply Ee|(apply Ei;intro _)|apply Ef p g
    all_goals first
     |exact Ya rfl
     |skip
    ·rename_i a;have a:(j2:Int)<(N.length:Int):=a;show 0≤(j2:Int)∧(j2:Int)<(N.length:Int);omega
    ·rename_i a;have a:(j2:Int)<(N.length:Int):=a;exact⟨C _ (QaB (k:=j2) (by omega)),by show o2.length≤_;omega,fun h=>by cases h⟩
    ·rename_i a;have a:(j2:Int)<(N.length:Int):=a;apply Ex _ [] [0,2]
     ·repeat' constructor
     ·omega
     ·exact QJ (by omega)
     ·show o2++QbO (List.getD N j2 0)=_;rw[QbQ (by omega),←Yy,←q]
    ·exact⟨by show Q1 ((M.length:Nat):Int);unfold Q1;omega,by show o2.length≤_;omega,fun h=>by cases h⟩
    ·show((o2++QbO ((M.length:Nat):Int)).length+M.length)*1≤140737488355328;rw[Ym];omega
    ·rename_i A;have A:¬(j2:Int)<(N.length:Int):=A;apply Ex _ [] [3]
     ·repeat' constructor
     ·omega
     ·exact QJ (by omega)
     ·show o2++QbO ((M.length:Nat):Int)++M=_;rw[E,q,f,show N.take j2=N from Yh (by omega)];simp[QfO]
   ·rename_i b;have b:¬(k:Int)<(ds.length:Int):=b;refine .mk [] [0] _ R R R R R (Qim ?_) rfl;rw[f,Yh (by omega),←F];rfl
 ·rename_i y P;have y:¬(k:Int)<9:=y;obtain rfl:t=false:=by cases t<;>simp_all
  rw[Yh (by omega)] at f;have G:∀n∈[op,at_,0,bd,s,c,((ds.length:Nat):Int)],Q1 n:=fun n K=>J n (YN.2 (.inr K))
  have F:Qz (QeK (tm,(r,op,at_,false),ds,bd,s,c))=o++Qz [op,at_,0,bd,s,c,((ds.length:Nat):Int)]:=by
   rw[f];unfold QeK;simp only[QdF];rw[Yy,Yy];congr 1;simp[Qz]
  clear f
  refine QA p g 7 (fun i (o:List Int)=>St.mk (E1 ((.cell (.ptr 0 0))::E1 ((.cell (.own 1))::E40 (E3 (E1 ((.cell (.own 2))::(I 7)::(I i)::E40 [])))))) [some (.var [iv .i64 tm,.run .i64 9 r,iv .i64 op,iv .i64 at_,bv false,.ro Qh ds,iv .i64 bd,iv .i64 s,iv .i64 c]),some (.arr (.int .u8) o),some (.arr (.int .i64) [op,at_,0,bd,s,c,((ds.length:Nat):Int)])])
   (fun k o'=>o'=o++Qz ([op,at_,0,bd,s,c,((ds.length:Nat):Int)].take k)) o (Le.k [] [0,1,2] ?_) ?_ fun j o' hj e=>?_
  ·repeat' constructor
  ·simp[Qz]
  have x:o'.length≤200:=by
   rw[e,Ym];have:=Qag G j;simp only[Yx,YU] at this;omega
  repeat' first|(apply Ea;conv=>whnf)|apply Eb|apply Ec|apply Ed|apply Ee|(apply Ei;intro _)|apply Ef p g
  all_goals first
   |exact Ya rfl
   |skip
  ·show 0≤(j:Int)∧(j:Int)<((7:Nat):Int);omega
  ·show j<7;omega
  ·exact⟨G _ (QaB (k:=j) (by show j<7;omega)),by show o'.length≤_;omega,fun h=>by cases h⟩
  ·apply Ex _ [] [0,3,2]
   ·repeat' constructor
   ·omega
   ·exact QJ (by omega)
   ·show o'++QbO (List.getD _ j 0)=_;rw[QbQ (by show j<7;omega),←Yy,←e]
  ·rename_i z;have z:¬(j:Int)<7:=z;rw[Yh (by show 7≤j;omega)] at e;rw[←e] at F;clear e u x G;have U:=QbP J;rw[Qee _ h3,F] at U;have S:=QfP ds
   refine QA p g ds.length (fun i (o:List Int)=>St.mk (E3 ((.cell (.own 0))::E40 (E10 (E5 ((.cell (.ro Qh ds))::(I (ds.length:Int))::(I i)::E20 (E5 (E3 (E1 [])))))))) [some (.arr (.int .u8) o)])
    (fun k o=>o=o'++(ds.take k).flatMap QfO) o' (Le.k [] [1] ?_) ?_ fun k o hk f=>?_
   ·repeat' constructor
   ·simp
   repeat' first|(apply Ea;conv=>whnf)|apply Eb|apply Ec|apply Ed|apply Ee|(apply Ei;intro _)|apply Ef p g
   all_goals first
    |exact Ya rfl
    |skip
   ·rename_i b;have b:(k:Int)<(ds.length:Int):=b;show 0≤(k:Int)∧(k:Int)<(ds.length:Int);omega
   ·rename_i b;have b:(k:Int)<(ds.length:Int):=b;have B:List.getD (α:=Den Qh) ds ((k:Int)).toNat (dflt Qh)∈ds:=Qgv (by omega)
    have u:o.length≤170+(ds.map QaR).sum:=by
     rw[f,Ym];have:=Qbb H O k;omega
    generalize List.getD (α:=Den Qh) ds ((k:Int)).toNat (dflt Qh)=D at *;have w:=QcN B;obtain⟨N,M⟩:=D;have w:10*N.length+M.length+20≤(ds.map QaR).sum:=w;exact⟨by show Q1 ((N.length:Nat):Int);unfold Q1;omega,by show o.length≤_;omega,fun h=>by cases h⟩
   ·rename_i b;have b:(k:Int)<(ds.length:Int):=b;have B:List.getD (α:=Den Qh) ds ((k:Int)).toNat (dflt Qh)∈ds:=Qgv (by omega);have E:(ds.take (k+1)).flatMap QfO=(ds.take k).flatMap QfO++QfO (List.getD (α:=Den Qh) ds ((k:Int)).toNat (dflt Qh)):=Qin (by omega)
    have u:o.length≤170+(ds.map QaR).sum:=by
     rw[f,Ym];have:=Qbb H O k;omega
    generalize List.getD (α:=Den Qh) ds ((k:Int)).toNat (dflt Qh)=D at *;have C:=H D B;have w:=QcN B;obtain⟨N,M⟩:=D;have C:∀n∈N,Q1 n:=C;have w:10*N.length+M.length+20≤(ds.map QaR).sum:=w;have eN:=Qak (n:=((N.length:Nat):Int)) (by unfold Q1;omega);have eM:=Qak (n:=((M.length:Nat):Int)) (by unfold Q1;omega)
    refine QA p g N.length (fun i (o:List Int)=>St.mk (E3 ((.cell (.own 1))::E5 (E1 ((.cell (.ptr 0 0))::E40 (E5 (E3 ((.cell (.ro Qh ds))::(I (ds.length:Int))::(I (k:Int))::E5 (E3 (E1 ((.cell (.ro (.int .i64) N))::(I (N.length:Int))::(I i)::E10 (E5 (E2 [])))))))))))) [some (.var [.ro (.int .i64) N,.ro (.int .u8) M]),some (.arr (.int .u8) o)])
     (fun j o2=>o2=(o++QbO ((N.length:Nat):Int))++Qz (N.take j)) (o++QbO ((N.length:Nat):Int)) (Le.k [] [1,2] ?_) ?_ fun j2 o2 Q q=>?_
    ·repeat' constructor
    ·simp[Qz]
    have L:o2.length≤o.length+10+10*N.length:=by
     rw[q,Ym,Ym];have:=Qag C j2;omega
    repeat' first|(apply Ea;conv=>whnf)|apply Eb|apply Ec|apply Ed|apply Ee|(apply Ei;intro _)|apply Ef p g
    all_goals first
     |exact Ya rfl
     |skip
    ·rename_i a;have a:(j2:Int)<(N.length:Int):=a;show 0≤(j2:Int)∧(j2:Int)<(N.length:Int);omega
    ·rename_i a;have a:(j2:Int)<(N.length:Int):=a;exact⟨C _ (QaB (k:=j2) (by omega)),by show o2.length≤_;omega,fun h=>by cases h⟩
    ·rename_i a;have a:(j2:Int)<(N.length:Int):=a;apply Ex _ [] [0,2]
     ·repeat' constructor
     ·omega
     ·exact QJ (by omega)
     ·show o2++QbO (List.getD N j2 0)=_;rw[QbQ (by omega),←Yy,←q]
    ·exact⟨by show Q1 ((M.length:Nat):Int);unfold Q1;omega,by show o2.length≤_;omega,fun h=>by cases h⟩
    ·show((o2++QbO ((M.length:Nat):Int)).length+M.length)*1≤140737488355328;rw[Ym];omega
    ·rename_i A;have A:¬(j2:Int)<(N.length:Int):=A;apply Ex _ [] [3]
     ·repeat' constructor
     ·omega
     ·exact QJ (by omega)
     ·show o2++QbO ((M.length:Nat):Int)++M=_;rw[E,q,f,show N.take j2=N from Yh (by omega)];simp[QfO]
   ·rename_i b;have b:¬(k:Int)<(ds.length:Int):=b;refine .mk [] [0] _ R R R R R (Qim ?_) rfl;rw[f,Yh (by omega),←F];rfl
abbrev QIL:=List (Den (.int .i64)×Den (.int .i64))
structure mrX where
 s:Int
 M:QIL
 a:Int
structure mwX where
 s:Int
 M:QIL
 a:Int
 d:Int
structure wcX where
 c:Cpu
 k:Kor
 i:Bool
 s:Int
 M:QIL
theorem QnX{c:Cpu}{k:Kor}(h:Qbc c k):QLW c k:=⟨by have:=h.1.1;omega,h.2.2⟩
theorem QEc(a:Int)(r:List Int):(plR a r).length=r.length:=by
 unfold plR
 repeat' split
 all_goals simp
theorem Qzz(c:Cpu)(k:Kor)(i:Bool):(Qk c k i).1.1.length=9:=by
 have h9:(QH k.1).length=9:=rfl;have hs:=Qew c (QH k.1,k.2) i
 have h1:(if k.2.1=-1 then Qbm c (QH k.1,k.2) i else (QH k.1,k.2)).1=QH k.1:=by
  split
  ·exact hs
  ·rfl
 unfold Qk;dsimp only;generalize(if k.2.1=-1 then Qbm c (QH k.1,k.2) i else (QH k.1,k.2))=k1 at *
 repeat' split
 all_goals first
  |(show(plR _ k1.1).length=9
    rw[QEc,h1];rfl)
  |(rw[h1];rfl)
theorem Qqn:∀(l:List Stp) (r:List Int),r.length=9→(QeT l r).1.length=9
 | [],r,h=>h
 |s::l,r,h=>by
  unfold QeT;split
  ·exact QkP _ _
  ·exact Qqn l _ (QkP _ _)
theorem Qiw(c:Cpu)(k:Kor)(d:Int):(QL c k d).1.length=9:=by
 have h9:(QH k.1).length=9:=rfl
 have h8:∀x D,(QbR x (QH k.1) D).length=9:=fun x D=>by
  unfold QbR;split
  ·rw[YH];rfl
  ·rfl
 unfold QL
 repeat' split
 all_goals first
  |rfl
  |exact Qqn _ _ (h8 _ _)
theorem Qix{c:Cpu}{k:Kor}(h:Qbc c k)(i:Bool):Qbc c (Qk c k i).1:=by
 refine⟨h.1,h.2.1,?_⟩;exact Qzz c k i
abbrev QN0:Ty:=.pair (.int .i64) (.pair (.int .i64) (.int .i64))
structure wrX where
 c:Cpu
 k:Kor
 s:Int
 M:QIL
structure EqiX where
 own:Bool
 g:Nat
 l:List Ins
 m:List Ins
def tsP(c:Cpu):Prop:=QrU c∧(Qb9 c.2.2.1∧Qb9 c.2.2.2.1∧Qb9 c.2.2.2.2)
def QwZ:PSpec:=⟨[⟨false,.sl Qap⟩],fun(l,_)=>(some (List.length l*56≤140737488351232),.cell (.own 0),[.arr Qap l])⟩
theorem Qw0:G0 169 QwZ.spec:=by
 have a:S0 _:=(Qb (T:=tree))
 have hT:=tabs a Qc;refine QwZ.gd hT a Tryz.func169 fun(l:List Ins) hq=>?_
 have hl:l.length*56≤140737488351232:=hq _ rfl;clear hq
 repeat' first|(apply Ea;conv=>whnf)|apply Eb|apply Ec|apply Ed|apply Ee|(apply Ei;intro _)|apply Ef hT a
 ·rename_i h;obtain rfl:l=[]:=Yr h;exact .le (Le.nil 2 Qap rfl) (.k [] [0] _ R R)
 ·show(0+l.length)*56≤140737488355328;omega
 ·exact .k [] [1] _ R R
end Go.Proofs.YtofgbclopbmlcaaGreat

namespace Go.Fw
set_option maxHeartbeats 8000000
set_option linter.unusedVariables false
set_option linter.unusedSimpArgs false
section
variable {P:Program}
theorem QIi{A:Type}{m:Nat}{c:Code}{st:St}{K:Cont}(n:Nat)(S:Int→A→St)(I:Nat→A→Prop)(a0:A)(h0:Le m st (S 0 a0))(hI:I 0 a0)
 (h:∀(k:Nat) a,k≤n→I k a→∃T,TabOk P T∧Q7 P T∧Go (QgP (S (k:Int) a) fun st=>exR P T m c st fun e st'=>match e with|.normal=>∃i' a',(k<n∧i'=((k+1:Nat):Int)∧I (k+1) a')∧Le m st' (S i' a')|e=>K e st')):LoopG P m c st K:=by
 refine QhG (X:=Nat×A) (fun x=>S (x.1:Int) x.2) (fun x=>x.1≤n∧I x.1 x.2) (fun x=>n-x.1) (0,a0) h0 ⟨YR _,hI⟩ fun x hx=>?_
 obtain⟨T,hT,hP,hg⟩:=h x.1 x.2 hx.1 hx.2;refine Does.mono (Qkh hT hP hg) fun e st' hk=>?_
 cases e with
 |normal =>
  obtain⟨i',a',⟨hlt,e,hi⟩,hle⟩:=hk;subst e;exact⟨(x.1+1,a'),⟨hlt,hi⟩,by show n-(x.1+1)<n-x.1;omega,hle⟩
 |_=>exact hk
end
end Go.Fw

