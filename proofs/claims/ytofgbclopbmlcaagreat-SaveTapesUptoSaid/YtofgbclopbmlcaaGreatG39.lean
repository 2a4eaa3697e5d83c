/- Part 39 of the proof. Conditions: none. -/
import Derived.Test.YtofgbclopbmlcaaGreatG38
import Derived.Test.YtofgbclopbmlcaaGreatG35
import Derived.Test.YtofgbclopbmlcaaGreatG34
namespace Go.Proofs.YtofgbclopbmlcaaGreat
set_option maxHeartbeats 8000000
open Go.Fw
set_option linter.unusedVariables false
set_option linter.unusedSimpArgs false
set_option linter.constructorNameAsVariable false
set_option maxRecDepth 100000
theorem QmM:G0 18 Qk5.spec:=by
 have N:S0 _:=Qa Qik (Qa Qn4 (Qa QnI (Qa QfN (Qa QeQ (Qb (T:=tree))))));have P:=tabs N Qc;refine Qk5.gd P N Tryz.func18 fun(b:Bd) hq=>?_
 obtain⟨⟨⟨hl1,hl2⟩,hcp⟩,hwp⟩:QFg b:=hq _ rfl;clear hq;obtain⟨E,⟨z,D,t,u,C⟩,a,m⟩:=b;have hl1:a.length*64≤140737488351232:=hl1;have hl2:m.length*32≤140737488351232:=hl2;have hcp:∀c∈a,cP c∧c.1.size≤140737488351232:=hcp;have hwp:∀w∈m,w.1.size≤140737488351232:=hwp;obtain⟨B,hB⟩:∃B:Bd,B=(E,(z,D,t,u,C),a,m):=⟨_,rfl⟩
 have s:Qas (E,(z,D,t,u,C),a,m)=if QaK (bytesOf E)=false then 15 else if QdU (z,D,t,u,C)≠0 then QdU (z,D,t,u,C) else if a.length>12 then 2 else if Qbh a≠0 then Qbh a
  else if m.length>40 then 2 else Qab (Qa5 (E,(z,D,t,u,C),a,m)) (List.range m.length):=rfl
 repeat' first|(apply Ea;conv=>whnf)|apply Eb|apply Ec|apply Ed|apply Ee|(apply Ei;intro _)|apply Ef P N
 all_goals(try dsimp only[Qf] at *)
 ·rename_i g;have g:QaK (bytesOf E)=false:=by simpa using g
  refine .k [] [] _ rfl (Qd ?_);rw[s,Yf g]
 ·rename_i g Z;have g:QaK (bytesOf E)=true:=by simpa using g
  have Z:=Qc2 (x:=QdU (z,D,t,u,C)) Z;refine .k [] [] _ rfl (Qd ?_);rw[s,Yb (by rw[g];decide),Yf Z]
 ·rename_i g Z g3;have g:QaK (bytesOf E)=true:=by simpa using g
  have Z:=QaS (x:=QdU (z,D,t,u,C)) Z;have g3:(a.length:Int)>12:=g3;refine .k [] [] _ rfl (Qd ?_);rw[s,Yb (by rw[g];decide),Yb (fun h=>h Z),Yf (by omega)]
 rename_i g Z g3;have g:QaK (bytesOf E)=true:=by simpa using g
 have Z:=QaS (x:=QdU (z,D,t,u,C)) Z;have g3:¬(a.length:Int)>12:=g3;rw[Yb (by rw[g];decide),Yb (fun h=>h Z),Yb (by omega)] at s
 refine QA P N (A:=Unit) a.length (fun i _=>St.mk (E1 ((.cell (.ptr 0 0))::E20 (E10 ((.cell (.ro Qe a))::(I a.length)::(I i)::E40 (E40 (E20 (E3 (E1 []))))))))
  [some (.var [.imm (.string E),.imm (.string z),.ro Qap D,.ro Qp t,.ro Qp u,.ro Qp C,.ro Qe a,.ro Qo m])])
  (fun k _=>Qab (fun k=>Qbv (a.take k) (a.getD k (dflt Qe))) ((List.range a.length).drop k)=Qbh a∧∀y∈a.take k,Q0 y=0) () (Le.k [] [0] ?_) ⟨rfl,fun y K=>by simp at K⟩ fun k _ hk ⟨hi,hbef⟩=>?_
 ·repeat' constructor
 have hcb:∀e:Int,Qbh a=e→e≠0→e=Qas (E,(z,D,t,u,C),a,m):=fun e h1 h2=>by
  rw[s,Yf (by rw[h1];exact h2),h1]
 repeat' first|(apply Ea;conv=>whnf)|apply Eb|apply Ec|apply Ed|apply Ee|(apply Ei;intro _)|apply Ef P N
 all_goals(try dsimp only[Qf] at *)
 ·show 0≤(k:Int)∧(k:Int)<(a.length:Int);omega
 ·rename_i Q;have Q:(k:Int)<(a.length:Int):=Q;exact(hcp _ (QK (dflt Qe) (show k<a.length by omega))).1
 ·rename_i Q L;have Q:(k:Int)<(a.length:Int):=Q;have L:(Q0 (a.getD k (dflt Qe)) != 0)=true:=L;have r:=(QdJ (e:=0) (show k<a.length by omega) hi).1;have e:Qbv (a.take k) (a.getD k (dflt Qe))=Q0 (a.getD k (dflt Qe)):=Yf (Qc2 L);rw[e] at r;exact .k [] [] _ rfl (Qd (hcb _ (r (Qc2 L)).symm (Qc2 L)))
 ·show 0≤(k:Int)∧(k:Int)≤(a.length:Int);omega
 ·rename_i Q L;have Q:(k:Int)<(a.length:Int):=Q;have L:(Q0 (a.getD k (dflt Qe)) != 0)=false:=L;have r:=QdJ (e:=0) (show k<a.length by omega) hi;have e:Qbv (a.take k) (a.getD k (dflt Qe))=Qab (Qbr (a.getD k (dflt Qe))) (a.take k):=Yb (fun h=>h (QaS L));rw[e] at r;have hx:a.getD (k:Int).toNat (dflt Qe)=a.getD k (dflt Qe):=rfl
  have hbef':∀y∈a.take (k+1),Q0 y=0:=fun y K=>by
   rw[Qbd (dflt Qe) (show k<a.length by omega)] at K;rcases YN.1 K with K|K
   ·exact hbef y K
   ·rw[Jl.1 K];exact QaS L
  have htl:(a.take k).length=k:=by rw[Yq];omega
  have hts:((a.take (k:Int).toNat).drop 0)=a.take k:=rfl;rw[hts,hx];have hpre:∀y∈a.take k,Q0 y=0:=hbef;generalize a.getD k (dflt Qe)=x at *;obtain⟨xn,xk,xb,xs,xd⟩:=x;generalize a.take k=pre at *
  refine QA P N (A:=Unit) pre.length (fun j _=>St.mk (E1 ((.cell (.ptr 0 0))::E3 ((.cell (.ptr 1 0))::E20 (E5 (E1 ((.cell (.ro Qe a))::(I a.length)::(I k)::E10 (E2 ((.cell (.ro Qe pre))::(I pre.length)::(I j)::E40 (E40 (E5 (E3 (E1 []))))))))))))
   [some (.var [.imm (.string E),.imm (.string z),.ro Qap D,.ro Qp t,.ro Qp u,.ro Qp C,.ro Qe a,.ro Qo m]),some (.var [.imm (.string xn),iv .i64 xk,iv .i64 xb,iv .i64 xs,.ro (.int .u8) xd])])
   (fun j _=>Qab (Qbr (xn,xk,xb,xs,xd)) (pre.drop j)=Qab (Qbr (xn,xk,xb,xs,xd)) pre) () (Le.k [] [0,1] ?_) rfl fun j _ hj hi2=>?_
  ·repeat' constructor
  repeat' first|(apply Ea;conv=>whnf)|apply Eb|apply Ec|apply Ed|apply Ee|(apply Ei;intro _)|apply Ef P N
  all_goals(try dsimp only[Qf] at *)
  all_goals clear P N
  all_goals(generalize K:pre.getD (j:Int).toNat (dflt Qe)=y at *;obtain⟨yn,yk,yb,ys,yd⟩:=y)
  all_goals(replace K:pre.getD j (dflt Qe)=(yn,yk,yb,ys,yd):=K)
  all_goals(have hok:Qbr (xn,xk,xb,xs,xd) (yn,yk,yb,ys,yd)=0→(j:Int)<(pre.length:Int)→Qab (Qbr (xn,xk,xb,xs,xd)) (pre.drop (j+1))=Qab (Qbr (xn,xk,xb,xs,xd)) pre:=fun Y h1=>(Qa4 (f:=Qbr (xn,xk,xb,xs,xd)) (dflt Qe) (show j<pre.length by omega) (by rw[K,Y])).symm.trans hi2)
  ·show 0≤(j:Int)∧(j:Int)<(pre.length:Int);omega
  ·rename_i H F;have H:(j:Int)<(pre.length:Int):=H;have F:Qm xn yn=true:=F;have F:Qm yn xn=true:=QF.2 (QF.1 F).symm;have e5:Qbr (xn,xk,xb,xs,xd) (yn,yk,yb,ys,yd)=5:=Yf F;have e6:=QaM (f:=Qbr (xn,xk,xb,xs,xd)) (dflt Qe) (show j<pre.length by omega) (by rw[K,e5];decide);rw[K,e5,hi2] at e6;rw[e6] at r;exact .k [] [] _ rfl (Qd (hcb _ (r.1 (by decide)).symm (by decide)))
  ·rename_i H F p;have H:(j:Int)<(pre.length:Int):=H;have F:Qm xn yn=false:=F;have g7':¬Qm yn xn=true:=fun h=>by rw[QF.2 (QF.1 h).symm] at F;cases F
   have hyE:Q0 (yn,yk,yb,ys,yd)=0:=by rw[←K];exact hpre _ (QK (dflt Qe) (show j<pre.length by omega))
   have p:=(QmF (c:=(xn,xk,xb,xs,xd)) (d:=(yn,yk,yb,ys,yd)) (QaS L) hyE).1 p
   have e5:Qbr (xn,xk,xb,xs,xd) (yn,yk,yb,ys,yd)=16:=by
    unfold Qbr;rw[Yb g7',Yf p]
   have e6:=QaM (f:=Qbr (xn,xk,xb,xs,xd)) (dflt Qe) (show j<pre.length by omega) (by rw[K,e5];decide);rw[K,e5,hi2] at e6;rw[e6] at r;exact .k [] [] _ rfl (Qd (hcb _ (r.1 (by decide)).symm (by decide)))
  ·rename_i H F p;have H:(j:Int)<(pre.length:Int):=H;have F:Qm xn yn=false:=F;have g7':¬Qm yn xn=true:=fun h=>by rw[QF.2 (QF.1 h).symm] at F;cases F
   have hyE:Q0 (yn,yk,yb,ys,yd)=0:=by rw[←K];exact hpre _ (QK (dflt Qe) (show j<pre.length by omega))
   have p:=fun h=>p ((QmF (c:=(xn,xk,xb,xs,xd)) (d:=(yn,yk,yb,ys,yd)) (QaS L) hyE).2 h)
   apply Ex () [] [0,1]
   ·repeat' constructor
   ·omega
   ·exact QJ (by omega)
   refine hok ?_ H;unfold Qbr;rw[Yb g7',Yb p]
  ·rename_i H;have H:¬(j:Int)<(pre.length:Int):=H
   have e0:Qab (Qbr (xn,xk,xb,xs,xd)) pre=0:=by
    rw[←hi2,Yk (by omega)];rfl
   apply Ex () [] [0]
   ·repeat' constructor
   ·omega
   ·exact QJ (by omega)
   exact⟨r.2 e0,hbef'⟩
 ·rename_i Q L;have Q:¬(k:Int)<(a.length:Int):=Q;have L:(m.length:Int)>40:=L
  have Y:Qbh a=0:=by
   rw[←hi,Yk (by rw[YS];omega)];rfl
  refine .k [] [] _ rfl (Qd ?_);rw[s,Yb (fun h=>h Y),Yf (by omega)]
 rename_i Q L;have Q:¬(k:Int)<(a.length:Int):=Q;have L:¬(m.length:Int)>40:=L
 have Y:Qbh a=0:=by
  rw[←hi,Yk (by rw[YS];omega)];rfl
 rw[Yb (fun h=>h Y),Yb (by omega)] at s;clear hi hcb
 refine QA P N (A:=List (Den Qo×Den .bool)) m.length (fun i M=>St.mk (E1 ((.cell (.ptr 0 0))::E5 (E2 ((.cell (.map 1))::E40 (E20 (E10 (E3 ((.cell (.ro Qo m))::(I m.length)::(I i)::E40 (E10 (E3 []))))))))))
  [some (.var [.imm (.string E),.imm (.string z),.ro Qap D,.ro Qp t,.ro Qp u,.ro Qp C,.ro Qe a,.ro Qo m]),some (.mp true Qo .bool M)])
  (fun k M=>Qab (Qa5 (E,(z,D,t,u,C),a,m)) ((List.range m.length).drop k)=Qab (Qa5 (E,(z,D,t,u,C),a,m)) (List.range m.length)∧QEp M (m.take k)) [] (Le.k [] [0,1] ?_) ⟨rfl,fun _=>rfl⟩ fun q M hq ⟨hj,hM⟩=>?_
 ·repeat' constructor
 have hA:Qa5 (E,(z,D,t,u,C),a,m) q=if Qbq (E,(z,D,t,u,C),a,m) (m.getD q (dflt Qo))≠0 then Qbq (E,(z,D,t,u,C),a,m) (m.getD q (dflt Qo)) else if (m.take q).any (Qc0 (m.getD q (dflt Qo)))=true then 5 else 0:=rfl
 have r:=fun h=>QiK (b:=(E,(z,D,t,u,C),a,m)) (k:=q) h hj
 rw[hA] at r;have S:=fun h:q<m.length=>hwp _ (QK (dflt Qo) h)
 repeat' first|(apply Ea;conv=>whnf)|apply Eb|apply Ec|apply Ed|apply Ee|(apply Ei;intro _)|apply Ef P N
 all_goals(try dsimp only[Qf] at *)
 all_goals(generalize hw:m.getD (q:Int).toNat (dflt Qo)=w at *;obtain⟨wf,wt⟩:=w)
 all_goals(replace hw:m.getD q (dflt Qo)=(wf,wt):=hw)
 all_goals(rw[hw] at r S)
 all_goals(have G:Qbq (E,(z,D,t,u,C),a,m) (wf,wt)=if QbV (nmB (QdQ wf)) a<0 then 4 else if Qm (cutA wf) QzW=false∨Qip (a.getD (QbV (nmB (QdQ wf)) a).toNat (dflt Qe)).2.1=false then 8 else if Qm wt Qbn=false then 20 else 0:=rfl)
 ·show 0≤(q:Int)∧(q:Int)<(m.length:Int);omega
 ·rename_i H F;have F:QbZ wf≥0:=F;have:=QiI F;show 0≤QbZ wf∧QbZ wf≤(wf.size:Int);omega
 ·rename_i H F;have H:(q:Int)<(m.length:Int):=H;have r:=r (by show q<m.length;omega);have S:wf.size≤140737488351232:=S (by omega);have F:QbZ wf≥0:=F;have J:QdQ wf=(wf.extract 0 (QbZ wf).toNat):=Yf F;have hns:((wf.extract 0 (QbZ wf).toNat)).size≤140737488351232:=by rw[ByteArray.size_extract];omega
  refine QA P N (A:=Int) a.length (fun j kd=>St.mk (E1 ((.cell (.ptr 0 0))::E5 (E2 ((.cell (.map 1))::E1 ((.cell (.ptr 2 0))::(.cell (.imm (.string (wf.extract 0 (QbZ wf).toNat))))::E1 ((I kd)::E40 (E20 (E5 (E3 ((.cell (.ro Qo m))::(I m.length)::(I q)::E10 (E5 ((.cell (.ro Qe a))::(I a.length)::(I j)::E20 (E10 (E5 []))))))))))))))
   [some (.var [.imm (.string E),.imm (.string z),.ro Qap D,.ro Qp t,.ro Qp u,.ro Qp C,.ro Qe a,.ro Qo m]),some (.mp true Qo .bool M),some (.var [.imm (.string wf),.imm (.string wt)])])
   (fun j kd=>kd=Qi9 (wf.extract 0 (QbZ wf).toNat) (a.take j)) (-1) (Le.k [] [0,1,2] ?_) rfl fun j kd hj3 V=>?_
  ·repeat' constructor
  have W:j=a.length→kd=Qi9 (wf.extract 0 (QbZ wf).toNat) a:=fun e=>by rw[V,e,List.take_length]
  repeat' first|(apply Ea;conv=>whnf)|apply Eb|apply Ec|apply Ed|apply Ee|(apply Ei;intro _)|apply Ef P N
  all_goals(try dsimp only[Qf] at *)
  all_goals clear P N
  ·show 0≤(j:Int)∧(j:Int)<(a.length:Int);omega
  ·rename_i p n;have p:(j:Int)<(a.length:Int):=p;have n:Qm (a.getD j (dflt Qe)).1 (wf.extract 0 (QbZ wf).toNat)=true:=n;apply Ex _ [] [0,1,2]
   ·repeat' constructor
   ·omega
   ·exact QJ (by omega)
   rw[QeC (show j<a.length by omega)];exact(Yf n).symm
  ·rename_i p n;have p:(j:Int)<(a.length:Int):=p;have n:Qm (a.getD j (dflt Qe)).1 (wf.extract 0 (QbZ wf).toNat)=false:=n;apply Ex _ [] [0,1,2]
   ·repeat' constructor
   ·omega
   ·exact QJ (by omega)
   rw[QeC (show j<a.length by omega),V];exact(Yb (by rw[n];decide)).symm
  ·rename_i p n;have p:¬(j:Int)<(a.length:Int):=p;have O:=W (by omega);have n:kd<0:=n;rw[O,QfZ Y] at n;have e4:Qbq (E,(z,D,t,u,C),a,m) (wf,wt)=4:=by rw[G,J,Yf n]
   rw[e4,Yf (by decide)] at r;refine .k [] [] _ rfl (Qd ?_);rw[s,←r.1 (by decide)]
  ·show((wf.extract 0 (QbZ wf).toNat)).size+4<4611686018427387904;omega
  all_goals(have O:=fun h:¬(j:Int)<(a.length:Int)=>W (by omega))
  all_goals(
   have X:¬kd<0→¬(j:Int)<(a.length:Int)→(¬QbV (nmB (QdQ wf)) a<0)∧kd=(a.getD (QbV (nmB (QdQ wf)) a).toNat (dflt Qe)).2.1:=fun h1 h2=>by
    have e:=O h2;have h4:¬QbV (nmB (QdQ wf)) a<0:=fun h=>h1 (by rw[J] at h;rw[e,QfZ Y];exact h)
    refine⟨h4,?_⟩;rw[J] at h4 ⊢
    rw[e,Qk4 (Qeg Y),Yb h4])
  all_goals(have U:=QBS wf;rw[J] at U)
  ·rename_i p n g10;obtain⟨f1,f2⟩:=X n p;have g10:(!Qm wf ((wf.extract 0 (QbZ wf).toNat)++Qhg))=true:=g10;rw[U] at g10;have e4:Qbq (E,(z,D,t,u,C),a,m) (wf,wt)=8:=by rw[G,Yb f1,Yf (.inl (by simpa using g10))]
   rw[e4,Yf (by decide)] at r;refine .k [] [] _ rfl (Qd ?_);rw[s,←r.1 (by decide)]
  ·rename_i p n g10 g11;obtain⟨f1,f2⟩:=X n p;have g11:(!Qip kd)=true:=g11;rw[f2] at g11;have e4:Qbq (E,(z,D,t,u,C),a,m) (wf,wt)=8:=by rw[G,Yb f1,Yf (.inr (by simpa using g11))]
   rw[e4,Yf (by decide)] at r;refine .k [] [] _ rfl (Qd ?_);rw[s,←r.1 (by decide)]
  ·rename_i p n g10 g11 g12;obtain⟨f1,f2⟩:=X n p;have g10:(!Qm wf ((wf.extract 0 (QbZ wf).toNat)++Qhg))=false:=g10;rw[U] at g10;have g11:(!Qip kd)=false:=g11;rw[f2] at g11;have g12:(!Qm wt Qbn)=true:=g12
   have e4:Qbq (E,(z,D,t,u,C),a,m) (wf,wt)=20:=by
    rw[G,Yb f1,Yb (fun h=>h.elim (fun h=>by rw[h] at g10;cases g10) (fun h=>by rw[h] at g11;cases g11)),Yf (by simpa using g12)]
   rw[e4,Yf (by decide)] at r;refine .k [] [] _ rfl (Qd ?_);rw[s,←r.1 (by decide)]
  ·rename_i p n g10 g11 g12 g13;obtain⟨f1,f2⟩:=X n p;have g10:(!Qm wf ((wf.extract 0 (QbZ wf).toNat)++Qhg))=false:=g10;rw[U] at g10;have g11:(!Qip kd)=false:=g11;rw[f2] at g11;have g12:(!Qm wt Qbn)=false:=g12;have g13:QgV (Qan M (wf,wt)) (dflt .bool)=true:=g13;have g13:(m.take q).any (Qc0 (wf,wt))=true:=(hM (wf,wt)).symm.trans g13
   have e4:Qbq (E,(z,D,t,u,C),a,m) (wf,wt)=0:=by
    rw[G,Yb f1,Yb (fun h=>h.elim (fun h=>by rw[h] at g10;cases g10) (fun h=>by rw[h] at g11;cases g11)),Yb (fun h=>by rw[h] at g12;cases g12)]
   rw[e4,Yb (by decide),Yf g13] at r;refine .k [] [] _ rfl (Qd ?_);rw[s,←r.1 (by decide)]
  ·rename_i p n g10 g11 g12 g13;obtain⟨f1,f2⟩:=X n p;have g10:(!Qm wf ((wf.extract 0 (QbZ wf).toNat)++Qhg))=false:=g10;rw[U] at g10;have g11:(!Qip kd)=false:=g11;rw[f2] at g11;have g12:(!Qm wt Qbn)=false:=g12;have g13:QgV (Qan M (wf,wt)) (dflt .bool)=false:=g13;have g13:(m.take q).any (Qc0 (wf,wt))=false:=(hM (wf,wt)).symm.trans g13
   have e4:Qbq (E,(z,D,t,u,C),a,m) (wf,wt)=0:=by
    rw[G,Yb f1,Yb (fun h=>h.elim (fun h=>by rw[h] at g10;cases g10) (fun h=>by rw[h] at g11;cases g11)),Yb (fun h=>by rw[h] at g12;cases g12)]
   rw[e4,Yb (by decide),Yb (by rw[g13];decide)] at r;apply Ex (Qaw M (wf,wt) true) [] [0,1]
   ·repeat' constructor
   ·omega
   ·exact QJ (by omega)
   exact⟨r.2 rfl,QmL hM (by omega) hw⟩
 ·rename_i H F;have H:(q:Int)<(m.length:Int):=H;have r:=r (by show q<m.length;omega);have S:wf.size≤140737488351232:=S (by omega);have F:¬QbZ wf≥0:=F;have J:QdQ wf=wf:=Yb F;have hns:(wf).size≤140737488351232:=S
  refine QA P N (A:=Int) a.length (fun j kd=>St.mk (E1 ((.cell (.ptr 0 0))::E5 (E2 ((.cell (.map 1))::E1 ((.cell (.ptr 2 0))::(.cell (.imm (.string wf)))::E1 ((I kd)::E40 (E20 (E5 (E3 ((.cell (.ro Qo m))::(I m.length)::(I q)::E10 (E5 ((.cell (.ro Qe a))::(I a.length)::(I j)::E20 (E10 (E5 []))))))))))))))
   [some (.var [.imm (.string E),.imm (.string z),.ro Qap D,.ro Qp t,.ro Qp u,.ro Qp C,.ro Qe a,.ro Qo m]),some (.mp true Qo .bool M),some (.var [.imm (.string wf),.imm (.string wt)])])
   (fun j kd=>kd=Qi9 wf (a.take j)) (-1) (Le.k [] [0,1,2] ?_) rfl fun j kd hj3 V=>?_
  ·repeat' constructor
  have W:j=a.length→kd=Qi9 wf a:=fun e=>by rw[V,e,List.take_length]
  repeat' first|(apply Ea;conv=>whnf)|apply Eb|apply Ec|apply Ed|apply Ee|(apply Ei;intro _)|apply Ef P N
  all_goals(try dsimp only[Qf] at *)
  all_goals clear P N
  ·show 0≤(j:Int)∧(j:Int)<(a.length:Int);omega
  ·rename_i p n;have p:(j:Int)<(a.length:Int):=p;have n:Qm (a.getD j (dflt Qe)).1 wf=true:=n;apply Ex _ [] [0,1,2]
   ·repeat' constructor
   ·omega
   ·exact QJ (by omega)
   rw[QeC (show j<a.length by omega)];exact(Yf n).symm
  ·rename_i p n;have p:(j:Int)<(a.length:Int):=p;have n:Qm (a.getD j (dflt Qe)).1 wf=false:=n;apply Ex _ [] [0,1,2]
   ·repeat' constructor
   ·omega
   ·exact QJ (by omega)
   rw[QeC (show j<a.length by omega),V];exact(Yb (by rw[n];decide)).symm
  ·rename_i p n;have p:¬(j:Int)<(a.length:Int):=p;have O:=W (by omega);have n:kd<0:=n;rw[O,QfZ Y] at n;have e4:Qbq (E,(z,D,t,u,C),a,m) (wf,wt)=4:=by rw[G,J,Yf n]
   rw[e4,Yf (by decide)] at r;refine .k [] [] _ rfl (Qd ?_);rw[s,←r.1 (by decide)]
  ·show(wf).size+4<4611686018427387904;omega
  all_goals(have O:=fun h:¬(j:Int)<(a.length:Int)=>W (by omega))
  all_goals(
   have X:¬kd<0→¬(j:Int)<(a.length:Int)→(¬QbV (nmB (QdQ wf)) a<0)∧kd=(a.getD (QbV (nmB (QdQ wf)) a).toNat (dflt Qe)).2.1:=fun h1 h2=>by
    have e:=O h2;have h4:¬QbV (nmB (QdQ wf)) a<0:=fun h=>h1 (by rw[J] at h;rw[e,QfZ Y];exact h)
    refine⟨h4,?_⟩;rw[J] at h4 ⊢
    rw[e,Qk4 (Qeg Y),Yb h4])
  all_goals(have U:=QBS wf;rw[J] at U)
  ·rename_i p n g10;obtain⟨f1,f2⟩:=X n p;have g10:(!Qm wf (wf++Qhg))=true:=g10;rw[U] at g10;have e4:Qbq (E,(z,D,t,u,C),a,m) (wf,wt)=8:=by rw[G,Yb f1,Yf (.inl (by simpa using g10))]
   rw[e4,Yf (by decide)] at r;refine .k [] [] _ rfl (Qd ?_);rw[s,←r.1 (by decide)]
  ·rename_i p n g10 g11;obtain⟨f1,f2⟩:=X n p;have g11:(!Qip kd)=true:=g11;rw[f2] at g11;have e4:Qbq (E,(z,D,t,u,C),a,m) (wf,wt)=8:=by rw[G,Yb f1,Yf (.inr (by simpa using g11))]
   rw[e4,Yf (by decide)] at r;refine .k [] [] _ rfl (Qd ?_);rw[s,←r.1 (by decide)]
  ·rename_i p n g10 g11 g12;obtain⟨f1,f2⟩:=X n p;have g10:(!Qm wf (wf++Qhg))=false:=g10;rw[U] at g10;have g11:(!Qip kd)=false:=g11;rw[f2] at g11;have g12:(!Qm wt Qbn)=true:=g12
   have e4:Qbq (E,(z,D,t,u,C),a,m) (wf,wt)=20:=by
    rw[G,Yb f1,Yb (fun h=>h.elim (fun h=>by rw[h] at g10;cases g10) (fun h=>by rw[h] at g11;cases g11)),Yf (by simpa using g12)]
   rw[e4,Yf (by decide)] at r;refine .k [] [] _ rfl (Qd ?_);rw[s,←r.1 (by decide)]
  ·rename_i p n g10 g11 g12 g13;obtain⟨f1,f2⟩:=X n p;have g10:(!Qm wf (wf++Qhg))=false:=g10;rw[U] at g10;have g11:(!Qip kd)=false:=g11;rw[f2] at g11;have g12:(!Qm wt Qbn)=false:=g12;have g13:QgV (Qan M (wf,wt)) (dflt .bool)=true:=g13;have g13:(m.take q).any (Qc0 (wf,wt))=true:=(hM (wf,wt)).symm.trans g13
   have e4:Qbq (E,(z,D,t,u,C),a,m) (wf,wt)=0:=by
    rw[G,Yb f1,Yb (fun h=>h.elim (fun h=>by rw[h] at g10;cases g10) (fun h=>by rw[h] at g11;cases g11)),Yb (fun h=>by rw[h] at g12;cases g12)]
   rw[e4,Yb (by decide),Yf g13] at r;refine .k [] [] _ rfl (Qd ?_);rw[s,←r.1 (by decide)]
  ·rename_i p n g10 g11 g12 g13;obtain⟨f1,f2⟩:=X n p;have g10:(!Qm wf (wf++Qhg))=false:=g10;rw[U] at g10;have g11:(!Qip kd)=false:=g11;rw[f2] at g11;have g12:(!Qm wt Qbn)=false:=g12;have g13:QgV (Qan M (wf,wt)) (dflt .bool)=false:=g13;have g13:(m.take q).any (Qc0 (wf,wt))=false:=(hM (wf,wt)).symm.trans g13
   have e4:Qbq (E,(z,D,t,u,C),a,m) (wf,wt)=0:=by
    rw[G,Yb f1,Yb (fun h=>h.elim (fun h=>by rw[h] at g10;cases g10) (fun h=>by rw[h] at g11;cases g11)),Yb (fun h=>by rw[h] at g12;cases g12)]
   rw[e4,Yb (by decide),Yb (by rw[g13];decide)] at r;apply Ex (Qaw M (wf,wt) true) [] [0,1]
   ·repeat' constructor
   ·omega
   ·exact QJ (by omega)
   exact⟨r.2 rfl,QmL hM (by omega) hw⟩
 ·rename_i H;have H:¬(q:Int)<(m.length:Int):=H;refine .k [] [] _ rfl (Qd ?_);rw[s,←hj,Yk (by rw[YS];omega)];rfl
def QL4(b:BdX)(m:McX):Prop:=bP b.v m.ba∧b.bc.length=m.ds.length∧(∀c∈b.bc,cP c)∧∀d∈m.ds,dP d
def QL5:WSpec:=⟨StX,fun x=>[.agg (bdA x.b),.c (.ptr 0 0)],fun x=>[.var (mcA x.m),.arr Qh x.m.ds],QKM,
 fun⟨⟨t,n,q,g,j,p,e,s⟩,⟨tm,r,op,at_,z,ds,bd,f,u⟩,_⟩ =>
  (some (QL4 ⟨t,n,q,g,j,p,e,s⟩ ⟨tm,r,op,at_,z,ds,bd,f,u⟩),.tup [],[some (.var [iv .i64 tm,.run .i64 9 r,iv .i64 op,iv .i64 at_,bv z,.own 1,iv .i64 bd,iv .i64 f,iv .i64 (Qb4 (t,(n,q,g,j,p),e,s) ds (bd,f,u))]),
    some (.arr Qh (QaX (t,(n,q,g,j,p),e,s) ds (bd,f,u)))],[])⟩
theorem QiE{tm:Int}{r:List Int}{op at_:Int}{z:Bool}{bd f i i':Int}{d d':List Dv}(h:i=i')(C:d=d'):[some (Blk.var [iv .i64 tm,.run .i64 9 r,iv .i64 op,iv .i64 at_,bv z,.own 1,iv .i64 bd,iv .i64 f,iv .i64 i]),some (.arr Qh d)]=[some (Blk.var [iv .i64 tm,.run .i64 9 r,iv .i64 op,iv .i64 at_,bv z,.own 1,iv .i64 bd,iv .i64 f,iv .i64 i']),some (.arr Qh d')]:=by
 subst h C;rfl
theorem QvS{b:Bd}{ds:List Dv}{x:Bsv}(h:0≤Qn b x.2.1)(w:x.1=1):Qb4 b ds x=loadI (b.2.2.1.getD (Qn b x.2.1).toNat (dflt Qe)) (ds.getD (Qn b x.2.1).toNat (dflt Qh)) (atF b x.2.1):=by
 unfold Qb4;rw[Yf w,Yf h]
theorem QvT{b:Bd}{ds:List Dv}{x:Bsv}(h:¬0≤Qn b x.2.1)(w:x.1=1):Qb4 b ds x=255:=by
 unfold Qb4;rw[Yf w,Yb h]
theorem QfX{b:Bd}{ds:List Dv}{x:Bsv}(w:¬x.1=1):Qb4 b ds x=x.2.2:=by
 unfold Qb4;rw[Yb w]
theorem QvU{b:Bd}{ds:List Dv}{x:Bsv}(h:0≤Qn b x.2.1)(w:x.1=1):QaX b ds x=ds.set (Qn b x.2.1).toNat (loadD (b.2.2.1.getD (Qn b x.2.1).toNat (dflt Qe)) (ds.getD (Qn b x.2.1).toNat (dflt Qh)) (atF b x.2.1)):=by
 unfold QaX;rw[Yf h,Yf w]
theorem QvV{b:Bd}{ds:List Dv}{x:Bsv}(h:0≤Qn b x.2.1)(w:x.1=2):QaX b ds x=ds.set (Qn b x.2.1).toNat (Qbg (b.2.2.1.getD (Qn b x.2.1).toNat (dflt Qe)) (ds.getD (Qn b x.2.1).toNat (dflt Qh)) (atF b x.2.1) x.2.2):=by
 unfold QaX;rw[Yf h,Yb (by omega),Yf w]
theorem QjD{b:Bd}{ds:List Dv}{x:Bsv}(h:¬0≤Qn b x.2.1):QaX b ds x=ds:=by
 unfold QaX;rw[Yb h]
theorem QvW{b:Bd}{ds:List Dv}{x:Bsv}(w:¬x.1=1)(C:¬x.1=2):QaX b ds x=ds:=by
 unfold QaX;rw[Yb w,Yb C,ite_self]
theorem QEi:G0 133 QL5.spec:=by
 have A:S0 _:=Qa Qef (Qa Qky (Qa Qii (Qb (T:=tree))));have B:=tabs A Qc;refine QL5.gd B A Tryz.func133 (fun _ _ _ h=>QEb h) fun(x:StX) hq=>?_
 obtain⟨⟨t,n,q,g,j,p,e,s⟩,⟨tm,r,op,at_,z,ds,bd,f,u⟩,l⟩:=x;obtain⟨w,C,F,E⟩:QL4 ⟨t,n,q,g,j,p,e,s⟩ ⟨tm,r,op,at_,z,ds,bd,f,u⟩:=hq _ rfl;clear hq;have w:bP (t,(n,q,g,j,p),e,s) f:=w;have C:e.length=ds.length:=C;have F:∀c∈e,cP c:=F;have E:∀d∈ds,dP d:=E;by_cases y:0≤Qn (t,(n,q,g,j,p),e,s) f
 ·obtain⟨f2,f3⟩:=Qc1 (b:=(t,(n,q,g,j,p),e,s)) (a:=f) y;have f2:Qn (t,(n,q,g,j,p),e,s) f<(e.length:Nat):=f2;have D:QrW (t,(n,q,g,j,p),e,s) f=true:=Yl y;by_cases e1:bd=1
  ·subst e1
   repeat' first|(apply Ea;conv=>whnf)|apply Eb|apply Ec|apply Ed|apply Ee|(apply Ei;intro _)|apply Ef B A
   all_goals(try dsimp only[Qf] at *)
   all_goals clear B A
   all_goals first
    |exact w
    |(exfalso;first|exact YD y (by assumption)|exact y (by assumption)|(simp[D] at *;done))
    |(show 0≤fI (t,(n,q,g,j,p),e,s) f∧fI (t,(n,q,g,j,p),e,s) f<(e.length:Int);omega)
    |(show 0≤fI (t,(n,q,g,j,p),e,s) f∧fI (t,(n,q,g,j,p),e,s) f<(ds.length:Int);omega)
    |(show(fI (t,(n,q,g,j,p),e,s) f).toNat<ds.length;omega)
    |exact⟨F _ (QK (dflt Qe) (show(fI (t,(n,q,g,j,p),e,s) f).toNat<e.length by omega)),E _ (QK (dflt Qh) (show(fI (t,(n,q,g,j,p),e,s) f).toNat<ds.length by omega))⟩
    |skip
   refine .mk [] [0,1] _ R R R R R (QiE ?_ ?_) rfl
   ·rw[QvS (b:=(t,(n,q,g,j,p),e,s)) (x:=(1,f,u)) y rfl];show loadI (e.getD (fI (t,(n,q,g,j,p),e,s) f).toNat (dflt Qe)) (ds.getD (fI (t,(n,q,g,j,p),e,s) f).toNat (dflt Qh)) (atF (t,(n,q,g,j,p),e,s) f)=_;rw[f3]
   ·rw[QvU (b:=(t,(n,q,g,j,p),e,s)) (x:=(1,f,u)) y rfl];show ds.set (fI (t,(n,q,g,j,p),e,s) f).toNat (loadD (e.getD (fI (t,(n,q,g,j,p),e,s) f).toNat (dflt Qe)) (ds.getD (fI (t,(n,q,g,j,p),e,s) f).toNat (dflt Qh)) (atF (t,(n,q,g,j,p),e,s) f))=_;rw[f3]
  by_cases e2:bd=2
  ·subst e2
   repeat' first|(apply Ea;conv=>whnf)|apply Eb|apply Ec|apply Ed|apply Ee|(apply Ei;intro _)|apply Ef B A
   all_goals(try dsimp only[Qf] at *)
   all_goals clear B A
   all_goals first
    |exact w
    |(exfalso;first|exact YD y (by assumption)|exact y (by assumption)|(simp[D] at *;done))
    |(show 0≤fI (t,(n,q,g,j,p),e,s) f∧fI (t,(n,q,g,j,p),e,s) f<(e.length:Int);omega)
    |(show 0≤fI (t,(n,q,g,j,p),e,s) f∧fI (t,(n,q,g,j,p),e,s) f<(ds.length:Int);omega)
    |(show(fI (t,(n,q,g,j,p),e,s) f).toNat<ds.length;omega)
    |exact⟨F _ (QK (dflt Qe) (show(fI (t,(n,q,g,j,p),e,s) f).toNat<e.length by omega)),E _ (QK (dflt Qh) (show(fI (t,(n,q,g,j,p),e,s) f).toNat<ds.length by omega))⟩
    |skip
   refine .mk [] [0,1] _ R R R R R (QiE ?_ ?_) rfl
   ·exact(QfX (b:=(t,(n,q,g,j,p),e,s)) (ds:=ds) (x:=(2,f,u)) (show¬(2:Int)=1 by decide)).symm
   ·rw[QvV (b:=(t,(n,q,g,j,p),e,s)) (x:=(2,f,u)) y rfl];show ds.set (fI (t,(n,q,g,j,p),e,s) f).toNat (Qbg (e.getD (fI (t,(n,q,g,j,p),e,s) f).toNat (dflt Qe)) (ds.getD (fI (t,(n,q,g,j,p),e,s) f).toNat (dflt Qh)) (atF (t,(n,q,g,j,p),e,s) f) u)=_;rw[f3]
  ·repeat' first|(apply Ea;conv=>whnf)|apply Eb|apply Ec|apply Ed|apply Ee|(apply Ei;intro _)|apply Ef B A
   all_goals(try dsimp only[Qf] at *)
   all_goals clear B A
   all_goals first
    |exact w
    |(exfalso;exact e1 (by assumption))
    |(exfalso;exact e2 (by assumption))
    |exact .mk [] [0,1] _ R R R R R (QiE (QfX (b:=(t,(n,q,g,j,p),e,s)) (ds:=ds) (x:=(bd,f,u)) e1).symm (QvW (b:=(t,(n,q,g,j,p),e,s)) (ds:=ds) (x:=(bd,f,u)) e1 e2).symm) rfl
    |skip
 ·have D:QrW (t,(n,q,g,j,p),e,s) f=false:=Yn y;by_cases e1:bd=1
  ·subst e1
   repeat' first|(apply Ea;conv=>whnf)|apply Eb|apply Ec|apply Ed|apply Ee|(apply Ei;intro _)|apply Ef B A
   all_goals(try dsimp only[Qf] at *)
   all_goals clear B A
   all_goals first
    |exact w
    |(exfalso;first|exact YD y (by assumption)|exact y (by assumption)|(simp[D] at *;done))
    |exact .mk [] [0,1] _ R R R R R (QiE (QvT (b:=(t,(n,q,g,j,p),e,s)) (ds:=ds) (x:=(1,f,u)) y rfl).symm (QjD (b:=(t,(n,q,g,j,p),e,s)) (ds:=ds) (x:=(1,f,u)) y).symm) rfl
    |skip
  ·repeat' first|(apply Ea;conv=>whnf)|apply Eb|apply Ec|apply Ed|apply Ee|(apply Ei;intro _)|apply Ef B A
   all_goals(try dsimp only[Qf] at *)
   all_goals clear B A
   all_goals first
    |exact w
    |(exfalso;exact e1 (by assumption))
    |exact .mk [] [0,1] _ R R R R R (QiE (QfX (b:=(t,(n,q,g,j,p),e,s)) (ds:=ds) (x:=(bd,f,u)) e1).symm (QjD (b:=(t,(n,q,g,j,p),e,s)) (ds:=ds) (x:=(bd,f,u)) y).symm) rfl
    |(exfalso;first|exact YD y (by assumption)|exact y (by assumption)|(simp[D] at *;done))
    |skip
theorem neN{a b:Nat}(h:((a:Int) != (b:Int))=true):a≠b:=fun e=>by subst e;simp at h
theorem eqN{a b:Nat}(h:((a:Int) != (b:Int))=false):a=b:=by simp at h;omega
theorem QiL{f:Nat→Int}{n k:Nat}(p:k<n)(i:Qab f ((List.range n).drop k)=Qab f (List.range n)) :
 (f k≠0→f k=Qab f (List.range n))∧(f k=0→Qab f ((List.range n).drop (k+1))=Qab f (List.range n)):=by
 have hr:k<(List.range n).length:=by rw[YS];exact p
 have e1:=QcB p;constructor
 ·intro h;rw[←i,QaM 0 hr (by rw[e1];exact h),e1]
 ·intro h;rw[←i,Qa4 0 hr (by rw[e1];exact h)]
theorem QjH{f:Nat→Int}{n k:Nat}(p:¬k<n)(i:Qab f ((List.range n).drop k)=Qab f (List.range n)):Qab f (List.range n)=0:=by
 rw[←i,Yk (by rw[YS];omega)];rfl
def Qsr(d:List Cv)(l:List Inp)(k:Nat):Int :=
 if 0<k∧(l.getD k (dflt Qv)).1<(l.getD (k-1) (dflt Qv)).1 then 9
 else if Qm (l.getD k (dflt Qv)).2.1 QaQ=true∨d.any (nmB (l.getD k (dflt Qv)).2.1)=true then 0 else 4
def QN(b:Bd)(m:Mach)(l:List Inp):Int :=
 if Qas b≠0 then Qas b else if m.2.2.1.length≠b.2.2.1.length then 3
 else if m.1<0∨m.1>1099511627776 then 1 else if l.length>500 then 2
 else Qab (Qsr b.2.2.1 l) (List.range l.length)
def stP(b:Bd)(m:Mach)(l:List Inp):Prop:=QFg b∧l.length≤4611686018427387904
def QbH(b:Bd)(m:Mach)(l:List Inp)(n:Int):Int :=
 if QN b m l≠0 then QN b m l else if n<0 then 1 else if n>100000 then 2 else 0
def Qk6:PSpec:=⟨[gBd,gM,gIn],fun(b,m,l,_)=>(some (stP b m l),I (QN b m l),[])⟩
theorem QaT{b:Bd}{m:Mach}{l:List Inp}(h:QN b m l=0):Qas b=0∧m.2.2.1.length=b.2.2.1.length∧(0≤m.1∧m.1≤1099511627776)∧l.length≤500:=by
 unfold QN at h;split at h
 ·rename_i g;exact YD h g
 ·rename_i g;split at h
  ·cases h
  ·rename_i j;split at h
   ·cases h
   ·rename_i h3;split at h
    ·cases h
    ·rename_i h4;refine⟨?_,?_,?_,?_⟩<;>omega
def Qdp(d:List Cv):List ByteArray:=QaQ::d.map fun c=>c.1
theorem QjI(d:List Cv)(s:ByteArray):(Qdp d).any (Qm s)=true↔Qm s QaQ=true∨d.any (nmB s)=true:=by
 unfold Qdp;rw[List.any_cons,Bool.or_eq_true,List.any_map];refine or_congr Iff.rfl ?_;rw[List.any_eq_true,List.any_eq_true];refine⟨fun⟨c,g,j⟩=>⟨c,g,QF.2 (QF.1 j).symm⟩,fun⟨c,g,j⟩=>⟨c,g,QF.2 (QF.1 j).symm⟩⟩
theorem Qn5{d:List Cv}{k:Nat}(h:k<d.length):Qdp (d.take (k+1))=Qdp (d.take k)++[(d.getD k (dflt Qe)).1]:=by
 unfold Qdp;rw[Qbd (dflt Qe) h,List.map_append];rfl
end Go.Proofs.YtofgbclopbmlcaaGreat

