/- Part 40 of the proof. Conditions: none. -/
import Derived.Test.YtofgbclopbmlcaaGreatG39
import Derived.Test.YtofgbclopbmlcaaGreatG36
import Derived.Test.YtofgbclopbmlcaaGreatG38
import Derived.Test.YtofgbclopbmlcaaGreatG28
import Derived.Test.YtofgbclopbmlcaaGreatG29
import Derived.Test.YtofgbclopbmlcaaGreatG37
import Derived.Test.YtofgbclopbmlcaaGreatG35
import Derived.Test.YtofgbclopbmlcaaGreatG26
namespace Go.Proofs.YtofgbclopbmlcaaGreat
open Go.IntKind (i64)
set_option maxHeartbeats 8000000
open Go.Fw
set_option linter.unusedVariables false
set_option linter.unusedSimpArgs false
set_option linter.constructorNameAsVariable false
set_option maxRecDepth 100000
theorem Qmz:G0 18 QkP.spec:=by
 have hP:S0 _:=Qa Qh5 (Qa QnR (Qa Qnv (Qa QfJ (Qa QeL (Qb (T:=tree))))));have hT:=tabs hP Qc;refine QkP.gd hT hP Tryz.func18 fun(b:Bd) hq=>?_
 obtain⟨⟨⟨hl1,hl2⟩,hcp⟩,hwp⟩:QD9 b:=hq _ rfl;clear hq;obtain⟨bn,⟨un,ui,ur,uq,um⟩,bc,bw⟩:=b;have hl1:bc.length*64≤140737488351232:=hl1;have hl2:bw.length*32≤140737488351232:=hl2;have hcp:∀c∈bc,cP c∧c.1.size≤140737488351232:=hcp;have hwp:∀w∈bw,w.1.size≤140737488351232:=hwp;obtain⟨B,hB⟩:∃B:Bd,B=(bn,(un,ui,ur,uq,um),bc,bw):=⟨_,rfl⟩
 have hBE:Qak (bn,(un,ui,ur,uq,um),bc,bw)=if QaF (bytesOf bn)=false then 15 else if QdP (un,ui,ur,uq,um)≠0 then QdP (un,ui,ur,uq,um) else if bc.length>12 then 2 else if Qbc bc≠0 then Qbc bc
  else if bw.length>40 then 2 else Q6 (Qa2 (bn,(un,ui,ur,uq,um),bc,bw)) (List.range bw.length):=rfl
 repeat' first|(apply Ea;conv=>whnf)|apply Eb|apply Ec<;>intro _|apply Ed<;>intro _|apply Ee<;>intro _|apply Ef hT hP
 all_goals(try dsimp only[Qf] at *)
 ·rename_i g;have g:QaF (bytesOf bn)=false:=by simpa using g
  refine .k [] [] _ rfl (Qd ?_);rw[hBE,if_pos g]
 ·rename_i g g2;have g:QaF (bytesOf bn)=true:=by simpa using g
  have g2:=QbM (x:=QdP (un,ui,ur,uq,um)) g2;refine .k [] [] _ rfl (Qd ?_);rw[hBE,if_neg (by rw[g];decide),if_pos g2]
 ·rename_i g g2 g3;have g:QaF (bytesOf bn)=true:=by simpa using g
  have g2:=Qap (x:=QdP (un,ui,ur,uq,um)) g2;have g3:(bc.length:Int)>12:=g3;refine .k [] [] _ rfl (Qd ?_);rw[hBE,if_neg (by rw[g];decide),if_neg (fun h=>h g2),if_pos (by omega)]
 rename_i g g2 g3;have g:QaF (bytesOf bn)=true:=by simpa using g
 have g2:=Qap (x:=QdP (un,ui,ur,uq,um)) g2;have g3:¬(bc.length:Int)>12:=g3;rw[if_neg (by rw[g];decide),if_neg (fun h=>h g2),if_neg (by omega)] at hBE
 refine QH hT hP (A:=Unit) bc.length (fun i _=>St.mk (E1 ((.cell (.ptr 0 0))::E20 (E10 ((.cell (.ro Qe bc))::(I bc.length)::(I i)::E40 (E40 (E20 (E3 (E1 []))))))))
  [some (.var [.imm (.string bn),.imm (.string un),.ro QaA ui,.ro Qs ur,.ro Qs uq,.ro Qs um,.ro Qe bc,.ro Qr bw])])
  (fun k _=>Q6 (fun k=>Qbs (bc.take k) (bc.getD k (dflt Qe))) ((List.range bc.length).drop k)=Qbc bc∧∀y∈bc.take k,QV y=0) () (Le.k [] [0] ?_) ⟨rfl,fun y hy=>by simp at hy⟩ fun k _ hk ⟨hi,hbef⟩=>?_
 ·repeat' constructor
 have hcb:∀e:Int,Qbc bc=e→e≠0→e=Qak (bn,(un,ui,ur,uq,um),bc,bw):=fun e h1 h2=>by
  rw[hBE,if_pos (by rw[h1];exact h2),h1]
 repeat' first|(apply Ea;conv=>whnf)|apply Eb|apply Ec<;>intro _|apply Ed<;>intro _|apply Ee<;>intro _|apply Ef hT hP
 all_goals(try dsimp only[Qf] at *)
 ·show 0≤(k:Int)∧(k:Int)<(bc.length:Int);omega
 ·rename_i g4;have g4:(k:Int)<(bc.length:Int):=g4;exact(hcp _ (QG (dflt Qe) (show k<bc.length by omega))).1
 ·rename_i g4 g5;have g4:(k:Int)<(bc.length:Int):=g4;have g5:(QV (bc.getD k (dflt Qe)) != 0)=true:=g5;have hs:=(QdC (e:=0) (show k<bc.length by omega) hi).1;have e:Qbs (bc.take k) (bc.getD k (dflt Qe))=QV (bc.getD k (dflt Qe)):=if_pos (QbM g5);rw[e] at hs;exact .k [] [] _ rfl (Qd (hcb _ (hs (QbM g5)).symm (QbM g5)))
 ·show 0≤(k:Int)∧(k:Int)≤(bc.length:Int);omega
 ·rename_i g4 g5;have g4:(k:Int)<(bc.length:Int):=g4;have g5:(QV (bc.getD k (dflt Qe)) != 0)=false:=g5;have hs:=QdC (e:=0) (show k<bc.length by omega) hi;have e:Qbs (bc.take k) (bc.getD k (dflt Qe))=Q6 (Qbm (bc.getD k (dflt Qe))) (bc.take k):=if_neg (fun h=>h (Qap g5));rw[e] at hs;have hx:bc.getD (k:Int).toNat (dflt Qe)=bc.getD k (dflt Qe):=rfl
  have hbef':∀y∈bc.take (k+1),QV y=0:=fun y hy=>by
   rw[Qa8 (dflt Qe) (show k<bc.length by omega)] at hy;rcases List.mem_append.1 hy with hy|hy
   ·exact hbef y hy
   ·rw[List.mem_singleton.1 hy];exact Qap g5
  have htl:(bc.take k).length=k:=by rw[List.length_take];omega
  have hts:((bc.take (k:Int).toNat).drop 0)=bc.take k:=rfl;rw[hts,hx];have hpre:∀y∈bc.take k,QV y=0:=hbef;generalize bc.getD k (dflt Qe)=x at *;obtain⟨xn,xk,xb,xs,xd⟩:=x;generalize bc.take k=pre at *
  refine QH hT hP (A:=Unit) pre.length (fun j _=>St.mk (E1 ((.cell (.ptr 0 0))::E3 ((.cell (.ptr 1 0))::E20 (E5 (E1 ((.cell (.ro Qe bc))::(I bc.length)::(I k)::E10 (E2 ((.cell (.ro Qe pre))::(I pre.length)::(I j)::E40 (E40 (E5 (E3 (E1 []))))))))))))
   [some (.var [.imm (.string bn),.imm (.string un),.ro QaA ui,.ro Qs ur,.ro Qs uq,.ro Qs um,.ro Qe bc,.ro Qr bw]),some (.var [.imm (.string xn),iv .i64 xk,iv .i64 xb,iv .i64 xs,.ro (.int .u8) xd])])
   (fun j _=>Q6 (Qbm (xn,xk,xb,xs,xd)) (pre.drop j)=Q6 (Qbm (xn,xk,xb,xs,xd)) pre) () (Le.k [] [0,1] ?_) rfl fun j _ hj hi2=>?_
  ·repeat' constructor
  repeat' first|(apply Ea;conv=>whnf)|apply Eb|apply Ec<;>intro _|apply Ed<;>intro _|apply Ee<;>intro _|apply Ef hT hP
  all_goals(try dsimp only[Qf] at *)
  all_goals clear hT hP
  all_goals(generalize hy:pre.getD (j:Int).toNat (dflt Qe)=y at *;obtain⟨yn,yk,yb,ys,yd⟩:=y)
  all_goals(replace hy:pre.getD j (dflt Qe)=(yn,yk,yb,ys,yd):=hy)
  all_goals(have hok:Qbm (xn,xk,xb,xs,xd) (yn,yk,yb,ys,yd)=0→(j:Int)<(pre.length:Int)→Q6 (Qbm (xn,xk,xb,xs,xd)) (pre.drop (j+1))=Q6 (Qbm (xn,xk,xb,xs,xd)) pre:=fun h0 h1=>(Qa1 (f:=Qbm (xn,xk,xb,xs,xd)) (dflt Qe) (show j<pre.length by omega) (by rw[hy,h0])).symm.trans hi2)
  ·show 0≤(j:Int)∧(j:Int)<(pre.length:Int);omega
  ·rename_i g6 g7;have g6:(j:Int)<(pre.length:Int):=g6;have g7:Qm xn yn=true:=g7;have g7:Qm yn xn=true:=QC.2 (QC.1 g7).symm;have e5:Qbm (xn,xk,xb,xs,xd) (yn,yk,yb,ys,yd)=5:=if_pos g7;have e6:=QaH (f:=Qbm (xn,xk,xb,xs,xd)) (dflt Qe) (show j<pre.length by omega) (by rw[hy,e5];decide);rw[hy,e5,hi2] at e6;rw[e6] at hs;exact .k [] [] _ rfl (Qd (hcb _ (hs.1 (by decide)).symm (by decide)))
  ·rename_i g6 g7 g8;have g6:(j:Int)<(pre.length:Int):=g6;have g7:Qm xn yn=false:=g7;have g7':¬Qm yn xn=true:=fun h=>by rw[QC.2 (QC.1 h).symm] at g7;cases g7
   have hyE:QV (yn,yk,yb,ys,yd)=0:=by rw[←hy];exact hpre _ (QG (dflt Qe) (show j<pre.length by omega))
   have g8:=(Qms (c:=(xn,xk,xb,xs,xd)) (d:=(yn,yk,yb,ys,yd)) (Qap g5) hyE).1 g8
   have e5:Qbm (xn,xk,xb,xs,xd) (yn,yk,yb,ys,yd)=16:=by
    unfold Qbm;rw[if_neg g7',if_pos g8]
   have e6:=QaH (f:=Qbm (xn,xk,xb,xs,xd)) (dflt Qe) (show j<pre.length by omega) (by rw[hy,e5];decide);rw[hy,e5,hi2] at e6;rw[e6] at hs;exact .k [] [] _ rfl (Qd (hcb _ (hs.1 (by decide)).symm (by decide)))
  ·rename_i g6 g7 g8;have g6:(j:Int)<(pre.length:Int):=g6;have g7:Qm xn yn=false:=g7;have g7':¬Qm yn xn=true:=fun h=>by rw[QC.2 (QC.1 h).symm] at g7;cases g7
   have hyE:QV (yn,yk,yb,ys,yd)=0:=by rw[←hy];exact hpre _ (QG (dflt Qe) (show j<pre.length by omega))
   have g8:=fun h=>g8 ((Qms (c:=(xn,xk,xb,xs,xd)) (d:=(yn,yk,yb,ys,yd)) (Qap g5) hyE).2 h)
   apply Ex () [] [0,1]
   ·repeat' constructor
   ·omega
   ·exact QL (by omega)
   refine hok ?_ g6;unfold Qbm;rw[if_neg g7',if_neg g8]
  ·rename_i g6;have g6:¬(j:Int)<(pre.length:Int):=g6
   have e0:Q6 (Qbm (xn,xk,xb,xs,xd)) pre=0:=by
    rw[←hi2,List.drop_of_length_le (by omega)];rfl
   apply Ex () [] [0]
   ·repeat' constructor
   ·omega
   ·exact QL (by omega)
   exact⟨hs.2 e0,hbef'⟩
 ·rename_i g4 g5;have g4:¬(k:Int)<(bc.length:Int):=g4;have g5:(bw.length:Int)>40:=g5
  have h0:Qbc bc=0:=by
   rw[←hi,List.drop_of_length_le (by rw[List.length_range];omega)];rfl
  refine .k [] [] _ rfl (Qd ?_);rw[hBE,if_neg (fun h=>h h0),if_pos (by omega)]
 rename_i g4 g5;have g4:¬(k:Int)<(bc.length:Int):=g4;have g5:¬(bw.length:Int)>40:=g5
 have h0:Qbc bc=0:=by
  rw[←hi,List.drop_of_length_le (by rw[List.length_range];omega)];rfl
 rw[if_neg (fun h=>h h0),if_neg (by omega)] at hBE;clear hi hcb
 refine QH hT hP (A:=List (Den Qr×Den .bool)) bw.length (fun i M=>St.mk (E1 ((.cell (.ptr 0 0))::E5 (E2 ((.cell (.map 1))::E40 (E20 (E10 (E3 ((.cell (.ro Qr bw))::(I bw.length)::(I i)::E40 (E10 (E3 []))))))))))
  [some (.var [.imm (.string bn),.imm (.string un),.ro QaA ui,.ro Qs ur,.ro Qs uq,.ro Qs um,.ro Qe bc,.ro Qr bw]),some (.mp true Qr .bool M)])
  (fun k M=>Q6 (Qa2 (bn,(un,ui,ur,uq,um),bc,bw)) ((List.range bw.length).drop k)=Q6 (Qa2 (bn,(un,ui,ur,uq,um),bc,bw)) (List.range bw.length)∧QDu M (bw.take k)) [] (Le.k [] [0,1] ?_) ⟨rfl,fun _=>rfl⟩ fun q M hq ⟨hj,hM⟩=>?_
 ·repeat' constructor
 have hA:Qa2 (bn,(un,ui,ur,uq,um),bc,bw) q=if Qbl (bn,(un,ui,ur,uq,um),bc,bw) (bw.getD q (dflt Qr))≠0 then Qbl (bn,(un,ui,ur,uq,um),bc,bw) (bw.getD q (dflt Qr)) else if (bw.take q).any (QcT (bw.getD q (dflt Qr)))=true then 5 else 0:=rfl
 have hs:=fun h=>Qiq (b:=(bn,(un,ui,ur,uq,um),bc,bw)) (k:=q) h hj
 rw[hA] at hs;have hsz:=fun h:q<bw.length=>hwp _ (QG (dflt Qr) h)
 repeat' first|(apply Ea;conv=>whnf)|apply Eb|apply Ec<;>intro _|apply Ed<;>intro _|apply Ee<;>intro _|apply Ef hT hP
 all_goals(try dsimp only[Qf] at *)
 all_goals(generalize hw:bw.getD (q:Int).toNat (dflt Qr)=w at *;obtain⟨wf,wt⟩:=w)
 all_goals(replace hw:bw.getD q (dflt Qr)=(wf,wt):=hw)
 all_goals(rw[hw] at hs hsz)
 all_goals(have hWE:Qbl (bn,(un,ui,ur,uq,um),bc,bw) (wf,wt)=if QbP (nmB (QdJ wf)) bc<0 then 4 else if Qm (cutA wf) Qzp=false∨Qh9 (bc.getD (QbP (nmB (QdJ wf)) bc).toNat (dflt Qe)).2.1=false then 8 else if Qm wt Qbi=false then 20 else 0:=rfl)
 ·show 0≤(q:Int)∧(q:Int)<(bw.length:Int);omega
 ·rename_i g6 g7;have g7:QbS wf≥0:=g7;have:=Qio g7;show 0≤QbS wf∧QbS wf≤(wf.size:Int);omega
 ·rename_i g6 g7;have g6:(q:Int)<(bw.length:Int):=g6;have hs:=hs (by show q<bw.length;omega);have hsz:wf.size≤140737488351232:=hsz (by omega);have g7:QbS wf≥0:=g7;have hnm:QdJ wf=(wf.extract 0 (QbS wf).toNat):=if_pos g7;have hns:((wf.extract 0 (QbS wf).toNat)).size≤140737488351232:=by rw[ByteArray.size_extract];omega
  refine QH hT hP (A:=Int) bc.length (fun j kd=>St.mk (E1 ((.cell (.ptr 0 0))::E5 (E2 ((.cell (.map 1))::E1 ((.cell (.ptr 2 0))::(.cell (.imm (.string (wf.extract 0 (QbS wf).toNat))))::E1 ((I kd)::E40 (E20 (E5 (E3 ((.cell (.ro Qr bw))::(I bw.length)::(I q)::E10 (E5 ((.cell (.ro Qe bc))::(I bc.length)::(I j)::E20 (E10 (E5 []))))))))))))))
   [some (.var [.imm (.string bn),.imm (.string un),.ro QaA ui,.ro Qs ur,.ro Qs uq,.ro Qs um,.ro Qe bc,.ro Qr bw]),some (.mp true Qr .bool M),some (.var [.imm (.string wf),.imm (.string wt)])])
   (fun j kd=>kd=QiU (wf.extract 0 (QbS wf).toNat) (bc.take j)) (-1) (Le.k [] [0,1,2] ?_) rfl fun j kd hj3 hkd=>?_
  ·repeat' constructor
  have hk2:j=bc.length→kd=QiU (wf.extract 0 (QbS wf).toNat) bc:=fun e=>by rw[hkd,e,List.take_length]
  repeat' first|(apply Ea;conv=>whnf)|apply Eb|apply Ec<;>intro _|apply Ed<;>intro _|apply Ee<;>intro _|apply Ef hT hP
  all_goals(try dsimp only[Qf] at *)
  all_goals clear hT hP
  ·show 0≤(j:Int)∧(j:Int)<(bc.length:Int);omega
  ·rename_i g8 g9;have g8:(j:Int)<(bc.length:Int):=g8;have g9:Qm (bc.getD j (dflt Qe)).1 (wf.extract 0 (QbS wf).toNat)=true:=g9;apply Ex _ [] [0,1,2]
   ·repeat' constructor
   ·omega
   ·exact QL (by omega)
   rw[Qew (show j<bc.length by omega)];exact(if_pos g9).symm
  ·rename_i g8 g9;have g8:(j:Int)<(bc.length:Int):=g8;have g9:Qm (bc.getD j (dflt Qe)).1 (wf.extract 0 (QbS wf).toNat)=false:=g9;apply Ex _ [] [0,1,2]
   ·repeat' constructor
   ·omega
   ·exact QL (by omega)
   rw[Qew (show j<bc.length by omega),hkd];exact(if_neg (by rw[g9];decide)).symm
  ·rename_i g8 g9;have g8:¬(j:Int)<(bc.length:Int):=g8;have hk3:=hk2 (by omega);have g9:kd<0:=g9;rw[hk3,QfT h0] at g9;have e4:Qbl (bn,(un,ui,ur,uq,um),bc,bw) (wf,wt)=4:=by rw[hWE,hnm,if_pos g9]
   rw[e4,if_pos (by decide)] at hs;refine .k [] [] _ rfl (Qd ?_);rw[hBE,←hs.1 (by decide)]
  ·show((wf.extract 0 (QbS wf).toNat)).size+4<4611686018427387904;omega
  all_goals(have hk3:=fun h:¬(j:Int)<(bc.length:Int)=>hk2 (by omega))
  all_goals(
   have hF:¬kd<0→¬(j:Int)<(bc.length:Int)→(¬QbP (nmB (QdJ wf)) bc<0)∧kd=(bc.getD (QbP (nmB (QdJ wf)) bc).toNat (dflt Qe)).2.1:=fun h1 h2=>by
    have e:=hk3 h2;have h4:¬QbP (nmB (QdJ wf)) bc<0:=fun h=>h1 (by rw[hnm] at h;rw[e,QfT h0];exact h)
    refine⟨h4,?_⟩;rw[hnm] at h4 ⊢
    rw[e,QkO (Qd8 h0),if_neg h4])
  all_goals(have hp:=QA4 wf;rw[hnm] at hp)
  ·rename_i g8 g9 g10;obtain⟨f1,f2⟩:=hF g9 g8;have g10:(!Qm wf ((wf.extract 0 (QbS wf).toNat)++Qg3))=true:=g10;rw[hp] at g10;have e4:Qbl (bn,(un,ui,ur,uq,um),bc,bw) (wf,wt)=8:=by rw[hWE,if_neg f1,if_pos (.inl (by simpa using g10))]
   rw[e4,if_pos (by decide)] at hs;refine .k [] [] _ rfl (Qd ?_);rw[hBE,←hs.1 (by decide)]
  ·rename_i g8 g9 g10 g11;obtain⟨f1,f2⟩:=hF g9 g8;have g11:(!Qh9 kd)=true:=g11;rw[f2] at g11;have e4:Qbl (bn,(un,ui,ur,uq,um),bc,bw) (wf,wt)=8:=by rw[hWE,if_neg f1,if_pos (.inr (by simpa using g11))]
   rw[e4,if_pos (by decide)] at hs;refine .k [] [] _ rfl (Qd ?_);rw[hBE,←hs.1 (by decide)]
  ·rename_i g8 g9 g10 g11 g12;obtain⟨f1,f2⟩:=hF g9 g8;have g10:(!Qm wf ((wf.extract 0 (QbS wf).toNat)++Qg3))=false:=g10;rw[hp] at g10;have g11:(!Qh9 kd)=false:=g11;rw[f2] at g11;have g12:(!Qm wt Qbi)=true:=g12
   have e4:Qbl (bn,(un,ui,ur,uq,um),bc,bw) (wf,wt)=20:=by
    rw[hWE,if_neg f1,if_neg (fun h=>h.elim (fun h=>by rw[h] at g10;cases g10) (fun h=>by rw[h] at g11;cases g11)),if_pos (by simpa using g12)]
   rw[e4,if_pos (by decide)] at hs;refine .k [] [] _ rfl (Qd ?_);rw[hBE,←hs.1 (by decide)]
  ·rename_i g8 g9 g10 g11 g12 g13;obtain⟨f1,f2⟩:=hF g9 g8;have g10:(!Qm wf ((wf.extract 0 (QbS wf).toNat)++Qg3))=false:=g10;rw[hp] at g10;have g11:(!Qh9 kd)=false:=g11;rw[f2] at g11;have g12:(!Qm wt Qbi)=false:=g12;have g13:QgK (Qag M (wf,wt)) (dflt .bool)=true:=g13;have g13:(bw.take q).any (QcT (wf,wt))=true:=(hM (wf,wt)).symm.trans g13
   have e4:Qbl (bn,(un,ui,ur,uq,um),bc,bw) (wf,wt)=0:=by
    rw[hWE,if_neg f1,if_neg (fun h=>h.elim (fun h=>by rw[h] at g10;cases g10) (fun h=>by rw[h] at g11;cases g11)),if_neg (fun h=>by rw[h] at g12;cases g12)]
   rw[e4,if_neg (by decide),if_pos g13] at hs;refine .k [] [] _ rfl (Qd ?_);rw[hBE,←hs.1 (by decide)]
  ·rename_i g8 g9 g10 g11 g12 g13;obtain⟨f1,f2⟩:=hF g9 g8;have g10:(!Qm wf ((wf.extract 0 (QbS wf).toNat)++Qg3))=false:=g10;rw[hp] at g10;have g11:(!Qh9 kd)=false:=g11;rw[f2] at g11;have g12:(!Qm wt Qbi)=false:=g12;have g13:QgK (Qag M (wf,wt)) (dflt .bool)=false:=g13;have g13:(bw.take q).any (QcT (wf,wt))=false:=(hM (wf,wt)).symm.trans g13
   have e4:Qbl (bn,(un,ui,ur,uq,um),bc,bw) (wf,wt)=0:=by
    rw[hWE,if_neg f1,if_neg (fun h=>h.elim (fun h=>by rw[h] at g10;cases g10) (fun h=>by rw[h] at g11;cases g11)),if_neg (fun h=>by rw[h] at g12;cases g12)]
   rw[e4,if_neg (by decide),if_neg (by rw[g13];decide)] at hs;apply Ex (Qaq M (wf,wt) true) [] [0,1]
   ·repeat' constructor
   ·omega
   ·exact QL (by omega)
   exact⟨hs.2 rfl,Qmy hM (by omega) hw⟩
 ·rename_i g6 g7;have g6:(q:Int)<(bw.length:Int):=g6;have hs:=hs (by show q<bw.length;omega);have hsz:wf.size≤140737488351232:=hsz (by omega);have g7:¬QbS wf≥0:=g7;have hnm:QdJ wf=wf:=if_neg g7;have hns:(wf).size≤140737488351232:=hsz
  refine QH hT hP (A:=Int) bc.length (fun j kd=>St.mk (E1 ((.cell (.ptr 0 0))::E5 (E2 ((.cell (.map 1))::E1 ((.cell (.ptr 2 0))::(.cell (.imm (.string wf)))::E1 ((I kd)::E40 (E20 (E5 (E3 ((.cell (.ro Qr bw))::(I bw.length)::(I q)::E10 (E5 ((.cell (.ro Qe bc))::(I bc.length)::(I j)::E20 (E10 (E5 []))))))))))))))
   [some (.var [.imm (.string bn),.imm (.string un),.ro QaA ui,.ro Qs ur,.ro Qs uq,.ro Qs um,.ro Qe bc,.ro Qr bw]),some (.mp true Qr .bool M),some (.var [.imm (.string wf),.imm (.string wt)])])
   (fun j kd=>kd=QiU wf (bc.take j)) (-1) (Le.k [] [0,1,2] ?_) rfl fun j kd hj3 hkd=>?_
  ·repeat' constructor
  have hk2:j=bc.length→kd=QiU wf bc:=fun e=>by rw[hkd,e,List.take_length]
  repeat' first|(apply Ea;conv=>whnf)|apply Eb|apply Ec<;>intro _|apply Ed<;>intro _|apply Ee<;>intro _|apply Ef hT hP
  all_goals(try dsimp only[Qf] at *)
  all_goals clear hT hP
  ·show 0≤(j:Int)∧(j:Int)<(bc.length:Int);omega
  ·rename_i g8 g9;have g8:(j:Int)<(bc.length:Int):=g8;have g9:Qm (bc.getD j (dflt Qe)).1 wf=true:=g9;apply Ex _ [] [0,1,2]
   ·repeat' constructor
   ·omega
   ·exact QL (by omega)
   rw[Qew (show j<bc.length by omega)];exact(if_pos g9).symm
  ·rename_i g8 g9;have g8:(j:Int)<(bc.length:Int):=g8;have g9:Qm (bc.getD j (dflt Qe)).1 wf=false:=g9;apply Ex _ [] [0,1,2]
   ·repeat' constructor
   ·omega
   ·exact QL (by omega)
   rw[Qew (show j<bc.length by omega),hkd];exact(if_neg (by rw[g9];decide)).symm
  ·rename_i g8 g9;have g8:¬(j:Int)<(bc.length:Int):=g8;have hk3:=hk2 (by omega);have g9:kd<0:=g9;rw[hk3,QfT h0] at g9;have e4:Qbl (bn,(un,ui,ur,uq,um),bc,bw) (wf,wt)=4:=by rw[hWE,hnm,if_pos g9]
   rw[e4,if_pos (by decide)] at hs;refine .k [] [] _ rfl (Qd ?_);rw[hBE,←hs.1 (by decide)]
  ·show(wf).size+4<4611686018427387904;omega
  all_goals(have hk3:=fun h:¬(j:Int)<(bc.length:Int)=>hk2 (by omega))
  all_goals(
   have hF:¬kd<0→¬(j:Int)<(bc.length:Int)→(¬QbP (nmB (QdJ wf)) bc<0)∧kd=(bc.getD (QbP (nmB (QdJ wf)) bc).toNat (dflt Qe)).2.1:=fun h1 h2=>by
    have e:=hk3 h2;have h4:¬QbP (nmB (QdJ wf)) bc<0:=fun h=>h1 (by rw[hnm] at h;rw[e,QfT h0];exact h)
    refine⟨h4,?_⟩;rw[hnm] at h4 ⊢
    rw[e,QkO (Qd8 h0),if_neg h4])
  all_goals(have hp:=QA4 wf;rw[hnm] at hp)
  ·rename_i g8 g9 g10;obtain⟨f1,f2⟩:=hF g9 g8;have g10:(!Qm wf (wf++Qg3))=true:=g10;rw[hp] at g10;have e4:Qbl (bn,(un,ui,ur,uq,um),bc,bw) (wf,wt)=8:=by rw[hWE,if_neg f1,if_pos (.inl (by simpa using g10))]
   rw[e4,if_pos (by decide)] at hs;refine .k [] [] _ rfl (Qd ?_);rw[hBE,←hs.1 (by decide)]
  ·rename_i g8 g9 g10 g11;obtain⟨f1,f2⟩:=hF g9 g8;have g11:(!Qh9 kd)=true:=g11;rw[f2] at g11;have e4:Qbl (bn,(un,ui,ur,uq,um),bc,bw) (wf,wt)=8:=by rw[hWE,if_neg f1,if_pos (.inr (by simpa using g11))]
   rw[e4,if_pos (by decide)] at hs;refine .k [] [] _ rfl (Qd ?_);rw[hBE,←hs.1 (by decide)]
  ·rename_i g8 g9 g10 g11 g12;obtain⟨f1,f2⟩:=hF g9 g8;have g10:(!Qm wf (wf++Qg3))=false:=g10;rw[hp] at g10;have g11:(!Qh9 kd)=false:=g11;rw[f2] at g11;have g12:(!Qm wt Qbi)=true:=g12
   have e4:Qbl (bn,(un,ui,ur,uq,um),bc,bw) (wf,wt)=20:=by
    rw[hWE,if_neg f1,if_neg (fun h=>h.elim (fun h=>by rw[h] at g10;cases g10) (fun h=>by rw[h] at g11;cases g11)),if_pos (by simpa using g12)]
   rw[e4,if_pos (by decide)] at hs;refine .k [] [] _ rfl (Qd ?_);rw[hBE,←hs.1 (by decide)]
  ·rename_i g8 g9 g10 g11 g12 g13;obtain⟨f1,f2⟩:=hF g9 g8;have g10:(!Qm wf (wf++Qg3))=false:=g10;rw[hp] at g10;have g11:(!Qh9 kd)=false:=g11;rw[f2] at g11;have g12:(!Qm wt Qbi)=false:=g12;have g13:QgK (Qag M (wf,wt)) (dflt .bool)=true:=g13;have g13:(bw.take q).any (QcT (wf,wt))=true:=(hM (wf,wt)).symm.trans g13
   have e4:Qbl (bn,(un,ui,ur,uq,um),bc,bw) (wf,wt)=0:=by
    rw[hWE,if_neg f1,if_neg (fun h=>h.elim (fun h=>by rw[h] at g10;cases g10) (fun h=>by rw[h] at g11;cases g11)),if_neg (fun h=>by rw[h] at g12;cases g12)]
   rw[e4,if_neg (by decide),if_pos g13] at hs;refine .k [] [] _ rfl (Qd ?_);rw[hBE,←hs.1 (by decide)]
  ·rename_i g8 g9 g10 g11 g12 g13;obtain⟨f1,f2⟩:=hF g9 g8;have g10:(!Qm wf (wf++Qg3))=false:=g10;rw[hp] at g10;have g11:(!Qh9 kd)=false:=g11;rw[f2] at g11;have g12:(!Qm wt Qbi)=false:=g12;have g13:QgK (Qag M (wf,wt)) (dflt .bool)=false:=g13;have g13:(bw.take q).any (QcT (wf,wt))=false:=(hM (wf,wt)).symm.trans g13
   have e4:Qbl (bn,(un,ui,ur,uq,um),bc,bw) (wf,wt)=0:=by
    rw[hWE,if_neg f1,if_neg (fun h=>h.elim (fun h=>by rw[h] at g10;cases g10) (fun h=>by rw[h] at g11;cases g11)),if_neg (fun h=>by rw[h] at g12;cases g12)]
   rw[e4,if_neg (by decide),if_neg (by rw[g13];decide)] at hs;apply Ex (Qaq M (wf,wt) true) [] [0,1]
   ·repeat' constructor
   ·omega
   ·exact QL (by omega)
   exact⟨hs.2 rfl,Qmy hM (by omega) hw⟩
 ·rename_i g6;have g6:¬(q:Int)<(bw.length:Int):=g6;refine .k [] [] _ rfl (Qd ?_);rw[hBE,←hj,List.drop_of_length_le (by rw[List.length_range];omega)];rfl
theorem neN{a b:Nat}(h:((a:Int) != (b:Int))=true):a≠b:=fun e=>by subst e;simp at h
theorem eqN{a b:Nat}(h:((a:Int) != (b:Int))=false):a=b:=by simp at h;omega
theorem Qir{f:Nat→Int}{n k:Nat}(hk:k<n)(hi:Q6 f ((List.range n).drop k)=Q6 f (List.range n)) :
 (f k≠0→f k=Q6 f (List.range n))∧(f k=0→Q6 f ((List.range n).drop (k+1))=Q6 f (List.range n)):=by
 have hr:k<(List.range n).length:=by rw[List.length_range];exact hk
 have e1:=Qcx hk;constructor
 ·intro h;rw[←hi,QaH 0 hr (by rw[e1];exact h),e1]
 ·intro h;rw[←hi,Qa1 0 hr (by rw[e1];exact h)]
theorem Qjs{f:Nat→Int}{n k:Nat}(hk:¬k<n)(hi:Q6 f ((List.range n).drop k)=Q6 f (List.range n)):Q6 f (List.range n)=0:=by
 rw[←hi,List.drop_of_length_le (by rw[List.length_range];omega)];rfl
def QrV(bc:List Cv)(l:List Inp)(k:Nat):Int :=
 if 0<k∧(l.getD k (dflt Qw)).1<(l.getD (k-1) (dflt Qw)).1 then 9
 else if Qm (l.getD k (dflt Qw)).2.1 QaP=true∨bc.any (nmB (l.getD k (dflt Qw)).2.1)=true then 0 else 4
def Qaw(b:Bd)(m:Mach)(l:List Inp):Int :=
 if Qak b≠0 then Qak b else if m.2.2.1.length≠b.2.2.1.length then 3
 else if m.1<0∨m.1>1099511627776 then 1 else if l.length>500 then 2
 else Q6 (QrV b.2.2.1 l) (List.range l.length)
def stP(b:Bd)(m:Mach)(l:List Inp):Prop:=QD9 b∧l.length≤4611686018427387904
def QaQ(b:Bd)(m:Mach)(l:List Inp)(n:Int):Int :=
 if Qaw b m l≠0 then Qaw b m l else if n<0 then 1 else if n>100000 then 2 else 0
def QkQ:PSpec:=⟨[gBd,gM,gIn],fun(b,m,l,_)=>(some (stP b m l),I (Qaw b m l),[])⟩
theorem Qd9{b:Bd}{m:Mach}{l:List Inp}(h:Qaw b m l=0):Qak b=0∧m.2.2.1.length=b.2.2.1.length∧(0≤m.1∧m.1≤1099511627776)∧l.length≤500:=by
 unfold Qaw at h;split at h
 ·rename_i h1;exact absurd h h1
 ·rename_i h1;split at h
  ·cases h
  ·rename_i h2;split at h
   ·cases h
   ·rename_i h3;split at h
    ·cases h
    ·rename_i h4;refine⟨?_,?_,?_,?_⟩<;>omega
def Qdh(bc:List Cv):List ByteArray:=QaP::bc.map fun c=>c.1
theorem Qjt(bc:List Cv)(s:ByteArray):(Qdh bc).any (Qm s)=true↔Qm s QaP=true∨bc.any (nmB s)=true:=by
 unfold Qdh;rw[List.any_cons,Bool.or_eq_true,List.any_map];refine or_congr Iff.rfl ?_;rw[List.any_eq_true,List.any_eq_true];refine⟨fun⟨c,h1,h2⟩=>⟨c,h1,QC.2 (QC.1 h2).symm⟩,fun⟨c,h1,h2⟩=>⟨c,h1,QC.2 (QC.1 h2).symm⟩⟩
theorem QnS{bc:List Cv}{k:Nat}(h:k<bc.length):Qdh (bc.take (k+1))=Qdh (bc.take k)++[(bc.getD k (dflt Qe)).1]:=by
 unfold Qdh;rw[Qa8 (dflt Qe) h,List.map_append];rfl
theorem QDv{a:Bool}(h:(!a)=false):a=true:=by cases a<;>first|rfl|cases h
theorem Qv2{bc:List Cv}{x:Inp}(h:(!bc.any (inB x))=false):bc.any (nmB x.2.1)=true:=QDv h
theorem Qv3{bc:List Cv}{x:Inp}(h:(!Qm x.2.1 QaP)=true)(h2:(!bc.any (inB x))=true):¬(Qm x.2.1 QaP=true∨bc.any (nmB x.2.1)=true):=fun hh=>by
 rcases hh with hh|hh
 ·rw[hh] at h;cases h
 ·have h3:bc.any (inB x)=true:=hh;rw[h3] at h2;cases h2
theorem Qv4:G0 13 QkQ.spec:=by
 have hP:S0 _:=Qa QvZ (Qa QGq (Qb (T:=tree)));have hT:=tabs hP Qc;refine QkQ.gd hT hP Tryz.func13 fun(b:Bd) (m:Mach) (l:List Inp) hq=>?_
 obtain⟨hck,hln⟩:stP b m l:=hq _ rfl;clear hq
 have hBE:Qaw b m l=if Qak b≠0 then Qak b else if m.2.2.1.length≠b.2.2.1.length then 3
  else if m.1<0∨m.1>1099511627776 then 1 else if l.length>500 then 2 else Q6 (QrV b.2.2.1 l) (List.range l.length):=rfl
 have hcl:b.2.2.1.length*64≤140737488351232:=hck.1.1.1;obtain⟨bn,⟨un,ui,ur,uq,um⟩,bc,bw⟩:=b;obtain⟨tm,⟨r,op,at_,nmi⟩,ds,bd,ba,bdt⟩:=m;have hcl:bc.length*64≤140737488351232:=hcl
 have hBE:Qaw (bn,(un,ui,ur,uq,um),bc,bw) (tm,(r,op,at_,nmi),ds,bd,ba,bdt) l=if Qak (bn,(un,ui,ur,uq,um),bc,bw)≠0 then Qak (bn,(un,ui,ur,uq,um),bc,bw) else if ds.length≠bc.length then 3
  else if tm<0∨tm>1099511627776 then 1 else if l.length>500 then 2 else Q6 (QrV bc l) (List.range l.length):=hBE
 repeat' first|(apply Ea;conv=>whnf)|apply Eb|apply Ec<;>intro _|apply Ed<;>intro _|apply Ee<;>intro _|apply Ef hT hP
 all_goals(try dsimp only[Qf] at *)
 ·exact hck
 ·rename_i g;have g:=QbM (x:=Qak (bn,(un,ui,ur,uq,um),bc,bw)) g;refine .k [] [] _ rfl (Qd ?_);rw[hBE,if_pos g]
 ·rename_i g0 g;have g0:=Qap (x:=Qak (bn,(un,ui,ur,uq,um),bc,bw)) g0;have g:=neN g;refine .k [] [] _ rfl (Qd ?_);rw[hBE,if_neg (fun h=>h g0),if_pos g]
 ·rename_i g0 g1 g2;have g0:=Qap (x:=Qak (bn,(un,ui,ur,uq,um),bc,bw)) g0;have g1:=eqN g1;have g2:tm<0:=g2;refine .k [] [] _ rfl (Qd ?_);rw[hBE,if_neg (fun h=>h g0),if_neg (fun h=>h g1),if_pos (.inl g2)]
 ·rename_i g0 g1 g2 g3;have g0:=Qap (x:=Qak (bn,(un,ui,ur,uq,um),bc,bw)) g0;have g1:=eqN g1;have g3:tm>1099511627776:=g3;refine .k [] [] _ rfl (Qd ?_);rw[hBE,if_neg (fun h=>h g0),if_neg (fun h=>h g1),if_pos (.inr g3)]
 ·rename_i g0 g1 g2 g3 g4;have g0:=Qap (x:=Qak (bn,(un,ui,ur,uq,um),bc,bw)) g0;have g1:=eqN g1;have g2:¬tm<0:=g2;have g3:¬tm>1099511627776:=g3;have g4:(l.length:Int)>500:=g4;refine .k [] [] _ rfl (Qd ?_);rw[hBE,if_neg (fun h=>h g0),if_neg (fun h=>h g1),if_neg (by omega),if_pos (by omega)]
 rename_i g0 g1 g2 g3 g4;have g0:=Qap (x:=Qak (bn,(un,ui,ur,uq,um),bc,bw)) g0;have g1:=eqN g1;have g2:¬tm<0:=g2;have g3:¬tm>1099511627776:=g3;have g4:¬(l.length:Int)>500:=g4;rw[if_neg (fun h=>h g0),if_neg (fun h=>h g1),if_neg (by omega),if_neg (by omega)] at hBE
 refine QH hT hP (A:=Unit) l.length (fun i _=>St.mk (E2 ((.cell (.ro Qw l))::(.cell (.ptr 0 0))::E20 (E10 (E2 ((.cell (.ro Qw l))::(I l.length)::(I i)::E20 (E10 []))))))
  [some (.var [.imm (.string bn),.imm (.string un),.ro QaA ui,.ro Qs ur,.ro Qs uq,.ro Qs um,.ro Qe bc,.ro Qr bw])])
  (fun k _=>Q6 (QrV bc l) ((List.range l.length).drop k)=Q6 (QrV bc l) (List.range l.length)) () (Le.k [] [0] ?_) rfl fun k _ hk hi=>?_
 ·repeat' constructor
 have hs:=fun h=>Qir (f:=QrV bc l) (k:=k) h hi
 have hp:0<k→(i64.wrap ((k:Int)-1))=((k-1:Nat):Int):=fun h=>by rw[w64 (by omega) (by omega)];omega
 have hA:QrV bc l k=if 0<k∧(l.getD k (dflt Qw)).1<(l.getD (k-1) (dflt Qw)).1 then 9
  else if Qm (l.getD k (dflt Qw)).2.1 QaP=true∨bc.any (nmB (l.getD k (dflt Qw)).2.1)=true then 0 else 4:=rfl
 clear g0 g1 g2 g3 hck
 repeat' first|(apply Ea;conv=>whnf)|apply Eb|apply Ec<;>intro _|apply Ed<;>intro _|apply Ee<;>intro _|apply Ef hT hP
 all_goals(try dsimp only[Qf] at *)
 all_goals clear hT hP
 ·rename_i g;have g:(k:Int)<(l.length:Int):=by assumption
  show 0≤(k:Int)∧(k:Int)<(l.length:Int);omega
 ·rename_i g g2;have g:(k:Int)<(l.length:Int):=by assumption
  have g2:(k:Int)>0:=by assumption
  show 0≤i64.wrap ((k:Int)-1)∧i64.wrap ((k:Int)-1)<(l.length:Int);rw[hp (by omega)];omega
 ·rename_i g g2 g3;have g:(k:Int)<(l.length:Int):=g;have g2:(k:Int)>0:=g2;have g3:(l.getD k (dflt Qw)).1<(l.getD (i64.wrap ((k:Int)-1)).toNat (dflt Qw)).1:=g3;rw[hp (by omega)] at g3;have g3:(l.getD k (dflt Qw)).1<(l.getD (k-1) (dflt Qw)).1:=g3;rw[if_pos ⟨by omega,g3⟩] at hA;refine .k [] [] _ rfl (Qd ?_);rw[hBE,←(hs (by omega)).1 (by rw[hA];decide),hA]
 ·exact⟨by omega,trivial⟩
 ·rename_i g g2 g3 g4 g5;have g:(k:Int)<(l.length:Int):=g;have g3:¬(l.getD k (dflt Qw)).1<(l.getD (i64.wrap ((k:Int)-1)).toNat (dflt Qw)).1:=g3;rw[hp (by omega)] at g3;have g3:¬(l.getD k (dflt Qw)).1<(l.getD (k-1) (dflt Qw)).1:=g3;rw[if_neg (fun h=>g3 h.2)] at hA;have g4:(!Qm (l.getD k (dflt Qw)).2.1 QaP)=true:=g4;have g5:(!bc.any (inB (l.getD k (dflt Qw))))=true:=g5;rw[if_neg (Qv3 g4 g5)] at hA;refine .k [] [] _ rfl (Qd ?_);rw[hBE,←(hs (by omega)).1 (by rw[hA];decide),hA]
 ·rename_i g g2 g3 g4 g5;have g:(k:Int)<(l.length:Int):=g;have g3:¬(l.getD k (dflt Qw)).1<(l.getD (i64.wrap ((k:Int)-1)).toNat (dflt Qw)).1:=g3;rw[hp (by omega)] at g3;have g3:¬(l.getD k (dflt Qw)).1<(l.getD (k-1) (dflt Qw)).1:=g3;have g5:(!bc.any (inB (l.getD k (dflt Qw))))=false:=g5;rw[if_neg (fun h=>g3 h.2),if_pos (.inr (Qv2 g5))] at hA;apply Ex () [] [0]
  ·repeat' constructor
  ·omega
  ·exact QL (by omega)
  exact(hs (by omega)).2 hA
 ·rename_i g g2 g3 g4;have g:(k:Int)<(l.length:Int):=g;have g3:¬(l.getD k (dflt Qw)).1<(l.getD (i64.wrap ((k:Int)-1)).toNat (dflt Qw)).1:=g3;rw[hp (by omega)] at g3;have g3:¬(l.getD k (dflt Qw)).1<(l.getD (k-1) (dflt Qw)).1:=g3;have g4:(!Qm (l.getD k (dflt Qw)).2.1 QaP)=false:=g4;rw[if_neg (fun h=>g3 h.2),if_pos (.inl (QDv g4))] at hA;apply Ex () [] [0]
  ·repeat' constructor
  ·omega
  ·exact QL (by omega)
  exact(hs (by omega)).2 hA
 ·exact⟨by omega,trivial⟩
 ·rename_i g g2 g4 g5;have g:(k:Int)<(l.length:Int):=g;have g2:¬(k:Int)>0:=g2;rw[if_neg (fun h=>by have:=h.1;omega)] at hA;have g4:(!Qm (l.getD k (dflt Qw)).2.1 QaP)=true:=g4;have g5:(!bc.any (inB (l.getD k (dflt Qw))))=true:=g5;rw[if_neg (Qv3 g4 g5)] at hA;refine .k [] [] _ rfl (Qd ?_);rw[hBE,←(hs (by omega)).1 (by rw[hA];decide),hA]
 ·rename_i g g2 g4 g5;have g:(k:Int)<(l.length:Int):=g;have g2:¬(k:Int)>0:=g2;have g5:(!bc.any (inB (l.getD k (dflt Qw))))=false:=g5;rw[if_neg (fun h=>by have:=h.1;omega),if_pos (.inr (Qv2 g5))] at hA;apply Ex () [] [0]
  ·repeat' constructor
  ·omega
  ·exact QL (by omega)
  exact(hs (by omega)).2 hA
 ·rename_i g g2 g4;have g:(k:Int)<(l.length:Int):=g;have g2:¬(k:Int)>0:=g2;have g4:(!Qm (l.getD k (dflt Qw)).2.1 QaP)=false:=g4;rw[if_neg (fun h=>by have:=h.1;omega),if_pos (.inl (QDv g4))] at hA;apply Ex () [] [0]
  ·repeat' constructor
  ·omega
  ·exact QL (by omega)
  exact(hs (by omega)).2 hA
 ·rename_i g;have g:¬(k:Int)<(l.length:Int):=g;refine .k [] [] _ rfl (Qd ?_);rw[hBE,Qjs (by omega) hi]
def QGs(h:List Int)(ds:List Dv):Mach:=(h.getD 0 0,((h.drop 1).take 9,h.getD 10 0,h.getD 11 0,decide (h.getD 12 0=1)),ds,h.getD 13 0,h.getD 14 0,h.getD 15 0)
def fin(h:List Int):Option (List Dv×List Int)→Option Mach
 |none=>none
 |some (ds,r)=>if r.length>0 then none else if h.getD 12 0=0∨h.getD 12 0=1 then some (QGs h ds) else none
def QGt(m:Mach):List Cell:=[iv .i64 m.1,.run .i64 9 m.2.1.1,iv .i64 m.2.1.2.1,iv .i64 m.2.1.2.2.1,bv m.2.1.2.2.2,.ro Qj m.2.2.1,iv .i64 m.2.2.2.1,iv .i64 m.2.2.2.2.1,iv .i64 m.2.2.2.2.2]
def QfV:Mach:=(0,([0,0,0,0,0,0,0,0,0],0,0,false),[],0,0,0)
def comes(T:Option Mach)(F:List Int→Option Mach)(b:List Int)(bad:Bool):Prop:=(bad=false→T=F b)∧(bad=true→T=none)
def QGu:PSpec:=⟨[⟨false,.sl .str⟩,Qya],fun(l,v,_)=>(some (List.length l≤4611686018427387904),I (QbP (Qm v) l),[])⟩
theorem QDw:G0 104 QGu.spec:=by
 have hP:S0 _:=(Qb (T:=tree))
 have hT:=tabs hP Qc;refine QGu.gd hT hP Tryz.func104 fun(l:List ByteArray) (v:ByteArray) hq=>?_
 have hl:l.length≤4611686018427387904:=hq _ rfl;clear hq
 repeat' first|(apply Ea;conv=>whnf)|apply Eb|apply Ec<;>intro _|apply Ed<;>intro _|apply Ee<;>intro _|apply Ef hT hP
 refine QH hT hP (A:=Unit) l.length (fun i _=>St.mk ((.cell (.ro .str l))::(.cell (.imm (.string v)))::E5 ((I l.length)::(I i)::E10 [])) [])
  (fun k _=>QdH (Qm v) (l.drop k) k=QbP (Qm v) l) () (Le.mk [] [] R R R ?_) rfl fun k _ hk hi=>?_
 ·repeat' constructor
 repeat' first|(apply Ea;conv=>whnf)|apply Eb|apply Ec<;>intro _|apply Ed<;>intro _|apply Ee<;>intro _|apply Ef hT hP
 all_goals clear hT hP
 ·rename_i g1;have g1:(k:Int)<(l.length:Int):=g1;show 0≤(k:Int)∧(k:Int)<(l.length:Int);omega
 ·rename_i g1 g2;have g1:(k:Int)<(l.length:Int):=g1;exact .k [] [] _ rfl (Qd (Qdz (dflt .str) (by omega) g2 hi))
 ·rename_i g1 g2;have g1:(k:Int)<(l.length:Int):=g1
  have hp:¬Qm v (l.getD k (dflt .str))=true:=by
   have g2:Qm v (l.getD k (dflt .str))=false:=g2;rw[g2];decide
  apply Ex () [] []
  ·repeat' constructor
  ·omega
  ·exact QL (by omega)
  exact Qbq (dflt .str) (by omega) hp hi
 ·rename_i g1;have g1:¬(k:Int)<(l.length:Int):=g1;exact .k [] [] _ rfl (Qd (QcJ (by omega) hi))
def QGv:PSpec:=⟨[⟨false,.sl .str⟩,Qya],fun(l,v,_)=>(some (List.length l≤4611686018427387904),.cell (bv (l.any (Qm v))),[])⟩
theorem QDx:G0 55 QGv.spec:=by
 have hP:S0 _:=Qa QDw (Qb (T:=tree));have hT:=tabs hP Qc;refine QGv.gd hT hP Tryz.func55 fun(l:List ByteArray) (v:ByteArray) hq=>?_
 have hl:l.length≤4611686018427387904:=hq _ rfl;clear hq
 repeat' first|(apply Ea;conv=>whnf)|apply Eb|apply Ec<;>intro _|apply Ed<;>intro _|apply Ee<;>intro _|apply Ef hT hP
 all_goals clear hT hP
 ·exact hl
 ·exact .k [] [] _ rfl (Qi (Qia (Qm v) l))
end Go.Proofs.YtofgbclopbmlcaaGreat

