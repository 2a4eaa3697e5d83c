/- Part 41 of the proof. Conditions: none. -/
import Derived.Test.YtofgbclopbmlcaaGreatG40
import Derived.Test.YtofgbclopbmlcaaGreatG35
import Derived.Test.YtofgbclopbmlcaaGreatG39
import Derived.Test.YtofgbclopbmlcaaGreatG36
import Derived.Test.YtofgbclopbmlcaaGreatG37
import Derived.Test.YtofgbclopbmlcaaGreatG38
namespace Go.Proofs.YtofgbclopbmlcaaGreat
set_option maxHeartbeats 4000000
open Go.Fw
set_option linter.unusedVariables false
set_option linter.unusedSimpArgs false
set_option linter.constructorNameAsVariable false
set_option maxRecDepth 100000
theorem QGw{bc:List Cv}{ns:List ByteArray}{s:ByteArray}(hn:Qdh bc=ns)(h:(!ns.any (Qm s))=false):Qm s QaP=true∨bc.any (nmB s)=true:=(Qjt bc s).1 (by rw[hn];simpa using h)
theorem QGx{bc:List Cv}{ns:List ByteArray}{s:ByteArray}(hn:Qdh bc=ns)(h:(!ns.any (Qm s))=true):¬(Qm s QaP=true∨bc.any (nmB s)=true):=fun hh=>by
 have:=(Qjt bc s).2 hh;rw[hn] at this;rw[this] at h;cases h
theorem Qv5:G0 14 QkQ.spec:=by
 have hP:S0 _:=Qa Qmz (Qa QDx (Qb (T:=tree)));have hT:=tabs hP Qc;refine QkQ.gd hT hP Tryz.func14 fun(b:Bd) (m:Mach) (l:List Inp) hq=>?_
 obtain⟨hck,hln⟩:stP b m l:=hq _ rfl;clear hq
 have hBE:Qaw b m l=if Qak b≠0 then Qak b else if m.2.2.1.length≠b.2.2.1.length then 3
  else if m.1<0∨m.1>1099511627776 then 1 else if l.length>500 then 2 else Q6 (QrV b.2.2.1 l) (List.range l.length):=rfl
 have hcl:b.2.2.1.length*64≤140737488351232:=hck.1.1.1;obtain⟨bn,⟨un,ui,ur,uq,um⟩,bc,bw⟩:=b;obtain⟨tm,⟨r,op,at_,nmi⟩,ds,bd,ba,bdt⟩:=m;have hcl:bc.length*64≤140737488351232:=hcl
 have hBE:Qaw (bn,(un,ui,ur,uq,um),bc,bw) (tm,(r,op,at_,nmi),ds,bd,ba,bdt) l=if Qak (bn,(un,ui,ur,uq,um),bc,bw)≠0 then Qak (bn,(un,ui,ur,uq,um),bc,bw) else if ds.length≠bc.length then 3
  else if tm<0∨tm>1099511627776 then 1 else if l.length>500 then 2 else Q6 (QrV bc l) (List.range l.length):=hBE
 repeat' first|(apply Ea;conv=>whnf)|apply Eb|apply Ec<;>intro _|apply Ed<;>intro _|apply Ee<;>intro _|apply Ef hT hP
 all_goals(try dsimp only[Qf] at *)
 ·exact hck
 ·rename_i g;have g:=QbM (x:=Qak (bn,(un,ui,ur,uq,um),bc,bw)) g;refine .k [] [] _ rfl (Qd ?_);rw[hBE,if_pos g]
 ·rename_i g0 g;have g0:=Qap (x:=Qak (bn,(un,ui,ur,uq,um),bc,bw)) g0;have g:=neN g;refine .k [] [] _ rfl (Qd ?_);rw[hBE,if_neg (fun h=>h g0),if_pos g]
 ·rename_i g0 g1 g2;have g0:=Qap (x:=Qak (bn,(un,ui,ur,uq,um),bc,bw)) g0;have g1:=eqN g1;have g2:tm<0:=g2;refine .k [] [] _ rfl (Qd ?_);rw[hBE,if_neg (fun h=>h g0),if_neg (fun h=>h g1),if_pos (.inl g2)]
 ·rename_i g0 g1 g2 g3;have g0:=Qap (x:=Qak (bn,(un,ui,ur,uq,um),bc,bw)) g0;have g1:=eqN g1;have g3:tm>1099511627776:=g3;refine .k [] [] _ rfl (Qd ?_);rw[hBE,if_neg (fun h=>h g0),if_neg (fun h=>h g1),if_pos (.inr g3)]
 ·rename_i g0 g1 g2 g3 g4;have g0:=Qap (x:=Qak (bn,(un,ui,ur,uq,um),bc,bw)) g0;have g1:=eqN g1;have g2:¬tm<0:=g2;have g3:¬tm>1099511627776:=g3;have g4:(l.length:Int)>500:=g4;refine .k [] [] _ rfl (Qd ?_);rw[hBE,if_neg (fun h=>h g0),if_neg (fun h=>h g1),if_neg (by omega),if_pos (by omega)]
 rename_i g0 g1 g2 g3 g4;have g0:=Qap (x:=Qak (bn,(un,ui,ur,uq,um),bc,bw)) g0;have g1:=eqN g1;have g2:¬tm<0:=g2;have g3:¬tm>1099511627776:=g3;have g4:¬(l.length:Int)>500:=g4;rw[if_neg (fun h=>h g0),if_neg (fun h=>h g1),if_neg (by omega),if_neg (by omega)] at hBE
 refine QH hT hP (A:=List ByteArray) bc.length (fun i o=>St.mk (E2 ((.cell (.ro Qw l))::E5 ((.cell (.own 0))::E20 (E5 (E3 (E1 ((.cell (.ro Qe bc))::(I bc.length)::(I i)::E20 (E10 (E5 [])))))))))
  [some (.arr .str o)])
  (fun k o=>o=Qdh (bc.take k)) [QaP] (Le.k [] [2] ?_) rfl fun k o hk hi=>?_
 ·repeat' constructor
 repeat' first|(apply Ea;conv=>whnf)|apply Eb|apply Ec<;>intro _|apply Ed<;>intro _|apply Ee<;>intro _|apply Ef hT hP
 all_goals(try dsimp only[Qf] at *)
 ·rename_i g;have g:(k:Int)<(bc.length:Int):=g;show 0≤(k:Int)∧(k:Int)<(bc.length:Int);omega
 ·rename_i g;have g:(k:Int)<(bc.length:Int):=g;have hz:o.length≤bc.length+1:=by rw[hi,Qdh,List.length_cons,List.length_map,List.length_take];omega
  show(o.length+1)*16≤140737488355328;omega
 ·rename_i g;have g:(k:Int)<(bc.length:Int):=g;apply Ex _ [] [3]
  ·repeat' constructor
  ·omega
  ·exact QL (by omega)
  rw[hi];exact(QnS (show k<bc.length by omega)).symm
 rename_i gg;have gg:¬(k:Int)<(bc.length:Int):=gg;have e:o=Qdh bc:=by rw[hi,List.take_of_length_le (by omega)]
 subst e;clear hi hk gg;have hnl:(Qdh bc).length≤4611686018427387904:=by rw[Qdh,List.length_cons,List.length_map];omega
 generalize hn:Qdh bc=ns at *
 refine QH hT hP (A:=Unit) l.length (fun i _=>St.mk (E2 ((.cell (.ro Qw l))::E5 ((.cell (.own 0))::E40 (E1 ((.cell (.ro Qw l))::(I l.length)::(I i)::E20 (E3 []))))))
  [some (.arr .str ns)])
  (fun k _=>Q6 (QrV bc l) ((List.range l.length).drop k)=Q6 (QrV bc l) (List.range l.length)) () (Le.k [] [0] ?_) rfl fun k _ hk hi=>?_
 ·repeat' constructor
 have hs:=fun h=>Qir (f:=QrV bc l) (k:=k) h hi
 have hp:0<k→(IntKind.i64.wrap ((k:Int)-1))=((k-1:Nat):Int):=fun h=>by rw[w64 (by omega) (by omega)];omega
 have hA:QrV bc l k=if 0<k∧(l.getD k (dflt Qw)).1<(l.getD (k-1) (dflt Qw)).1 then 9
  else if Qm (l.getD k (dflt Qw)).2.1 QaP=true∨bc.any (nmB (l.getD k (dflt Qw)).2.1)=true then 0 else 4:=rfl
 clear g0 g1 g2 g3 hck
 repeat' first|(apply Ea;conv=>whnf)|apply Eb|apply Ec<;>intro _|apply Ed<;>intro _|apply Ee<;>intro _|apply Ef hT hP
 all_goals(try dsimp only[Qf] at *)
 all_goals clear hT hP
 ·rename_i g;have g:(k:Int)<(l.length:Int):=by assumption
  show 0≤(k:Int)∧(k:Int)<(l.length:Int);omega
 ·rename_i g g2;have g:(k:Int)<(l.length:Int):=by assumption
  have g2:(k:Int)>0:=by assumption
  show 0≤IntKind.i64.wrap ((k:Int)-1)∧IntKind.i64.wrap ((k:Int)-1)<(l.length:Int);rw[hp (by omega)];omega
 ·rename_i g g2 g3;have g:(k:Int)<(l.length:Int):=g;have g2:(k:Int)>0:=g2;have g3:(l.getD (IntKind.i64.wrap ((k:Int)-1)).toNat (dflt Qw)).1>(l.getD k (dflt Qw)).1:=g3;rw[hp (by omega)] at g3;have g3:(l.getD k (dflt Qw)).1<(l.getD (k-1) (dflt Qw)).1:=g3;rw[if_pos ⟨by omega,g3⟩] at hA;refine .k [] [] _ rfl (Qd ?_);rw[hBE,←(hs (by omega)).1 (by rw[hA];decide),hA]
 ·exact hnl
 ·rename_i g g2 g3 g5;have g:(k:Int)<(l.length:Int):=g;have g2:(k:Int)>0:=g2;have g3:¬(l.getD (IntKind.i64.wrap ((k:Int)-1)).toNat (dflt Qw)).1>(l.getD k (dflt Qw)).1:=g3;rw[hp (by omega)] at g3;have g3:¬(l.getD k (dflt Qw)).1<(l.getD (k-1) (dflt Qw)).1:=g3;have g5:(!ns.any (Qm (l.getD k (dflt Qw)).2.1))=true:=g5;rw[if_neg (fun h=>g3 h.2),if_neg (QGx hn g5)] at hA;refine .k [] [] _ rfl (Qd ?_);rw[hBE,←(hs (by omega)).1 (by rw[hA];decide),hA]
 ·rename_i g g2 g3 g5;have g:(k:Int)<(l.length:Int):=g;have g2:(k:Int)>0:=g2;have g3:¬(l.getD (IntKind.i64.wrap ((k:Int)-1)).toNat (dflt Qw)).1>(l.getD k (dflt Qw)).1:=g3;rw[hp (by omega)] at g3;have g3:¬(l.getD k (dflt Qw)).1<(l.getD (k-1) (dflt Qw)).1:=g3;have g5:(!ns.any (Qm (l.getD k (dflt Qw)).2.1))=false:=g5;rw[if_neg (fun h=>g3 h.2),if_pos (QGw hn g5)] at hA;apply Ex () [] [0]
  ·repeat' constructor
  ·omega
  ·exact QL (by omega)
  exact(hs (by omega)).2 hA
 ·exact hnl
 ·rename_i g g2 g5;have g:(k:Int)<(l.length:Int):=g;have g2:¬(k:Int)>0:=g2;have g5:(!ns.any (Qm (l.getD k (dflt Qw)).2.1))=true:=g5;rw[if_neg (fun h=>by have:=h.1;omega),if_neg (QGx hn g5)] at hA;refine .k [] [] _ rfl (Qd ?_);rw[hBE,←(hs (by omega)).1 (by rw[hA];decide),hA]
 ·rename_i g g2 g5;have g:(k:Int)<(l.length:Int):=g;have g2:¬(k:Int)>0:=g2;have g5:(!ns.any (Qm (l.getD k (dflt Qw)).2.1))=false:=g5;rw[if_neg (fun h=>by have:=h.1;omega),if_pos (QGw hn g5)] at hA;apply Ex () [] [0]
  ·repeat' constructor
  ·omega
  ·exact QL (by omega)
  exact(hs (by omega)).2 hA
 ·rename_i g;have g:¬(k:Int)<(l.length:Int):=g;refine .k [] [] _ rfl (Qd ?_);rw[hBE,Qjs (by omega) hi]
def QiV:Bd:=(⟨#[98]⟩,(⟨#[99]⟩,[],[],[],[]),[(⟨#[114,97,109]⟩,0,8,4,[])],[])
def Qqb:PSpec:=⟨[gBd],fun(b,_)=>(some (b=QiV),I 0,[])⟩
theorem QrW:G0 53 Qqb.spec:=by
 have hP:S0 _:=Qa QfI (Qa QuR (Qa Ql8 (Qb (T:=tree))));have hT:=tabs hP Qc;refine Qqb.gd hT hP Tryz.func53 fun(b:Bd) hq=>?_
 obtain rfl:b=QiV:=hq _ rfl;clear hq
 repeat' first|(apply Ea;conv=>whnf)|apply Eb|apply Ec<;>intro _|apply Ed<;>intro _|apply Ee<;>intro _|apply Ef hT hP|apply Eg hT hP
 ·exact rfl
 refine QX 2 ?_
 repeat' first|(apply Ea;conv=>whnf)|apply Eb|apply Ec<;>intro _|apply Ed<;>intro _|apply Ee<;>intro _|apply Ef hT hP|apply Eg hT hP
 ·exact of_decide_eq_true rfl
 ·exact⟨⟨by decide,by decide⟩,⟨by decide,by decide⟩,by decide⟩
 ·rename_i h;exfalso;have h:(QV (⟨#[114,97,109]⟩,0,8,4,[]) != 0)=true:=h;revert h;decide +kernel
 ·exact of_decide_eq_true rfl
 rename_i h;clear h;refine QX 1 ?_
 repeat' first|(apply Ea;conv=>whnf)|apply Eb|apply Ec<;>intro _|apply Ed<;>intro _|apply Ee<;>intro _|apply Ef hT hP|apply Eg hT hP
 refine QX 1 ?_
 repeat' first|(apply Ea;conv=>whnf)|apply Eb|apply Ec<;>intro _|apply Ed<;>intro _|apply Ee<;>intro _|apply Ef hT hP|apply Eg hT hP
 all_goals first
  |exact of_decide_eq_true rfl
  |exact .k [] [] _ R R
  |skip
def QGy:PSpec:=⟨[],fun _=>(none,.agg [.run .i64 9 [0,0,0,0,4,0,0,0,0],iv .i64 258,iv .i64 0,bv false],[])⟩
theorem QDy:G0 59 QGy.spec:=by
 have hP:S0 _:=(Qb (T:=tree))
 have hT:=tabs hP Qc;refine QGy.gd hT hP Tryz.func59 fun _=>?_
 repeat' first|(apply Ea;conv=>whnf)|apply Eb|apply Ec<;>intro _|apply Ed<;>intro _|apply Ee<;>intro _|apply Ef hT hP
 all_goals first
  |exact of_decide_eq_true rfl
  |exact .k [] [] _ R R
  |skip
def Qzt:Cv:=(⟨#[114,97,109]⟩,0,8,4,[])
def Qk3:Mach:=(0,([0,0,0,0,4,0,0,0,0],258,0,false),[Qd5 Qzt],0,0,0)
def QJe(m:Mach):V1:=.agg [iv .i64 m.1,.run .i64 9 m.2.1.1,iv .i64 m.2.1.2.1,iv .i64 m.2.1.2.2.1,bv m.2.1.2.2.2,.ro Qj m.2.2.1,iv .i64 m.2.2.2.1,iv .i64 m.2.2.2.2.1,iv .i64 m.2.2.2.2.2]
def QA5:PSpec:=⟨[gBd],fun(b,_)=>(some (b=QiV),.tup [QJe Qk3,I1 0],[])⟩
theorem QkR:cP Qzt:=⟨⟨by decide,by decide⟩,⟨by decide,by decide⟩,by decide⟩
theorem Qqc:G0 17 QA5.spec:=by
 have hP:S0 _:=Qa QrW (Qa QDy (Qa QCC (Qb (T:=tree))));have hT:=tabs hP Qc;refine QA5.gd hT hP Tryz.func17 fun(b:Bd) hq=>?_
 obtain rfl:b=QiV:=hq _ rfl;clear hq
 repeat' first|(apply Ea;conv=>whnf)|apply Eb|apply Ec<;>intro _|apply Ed<;>intro _|apply Ee<;>intro _|apply Ef hT hP
 ·exact rfl
 refine QH hT hP (A:=List Dv) 1 (fun i o=>St.mk (E2 ((.cell (.ptr 0 0))::E2 ((.cell (.ptr 1 0))::E10 (E1 ((.cell (.ro Qe [Qzt]))::(I 1)::(I i)::E10 (E2 []))))))
  [some (.var [.imm (.int .i64 0),.run .i64 9 (List.replicate 9 0),.imm (.int .i64 0),.imm (.int .i64 0),.imm (.bool false),.imm (.slice none 0 0),.imm (.int .i64 0),.imm (.int .i64 0),.imm (.int .i64 0)]),some (.var [.imm (.int .i64 0),.run .i64 9 [0,0,0,0,4,0,0,0,0],.imm (.int .i64 258),.imm (.int .i64 0),.imm (.bool false),.own 2,.imm (.int .i64 0),.imm (.int .i64 0),.imm (.int .i64 0)]),some (.arr Qj o)])
  (fun k o=>o=[Qd5 Qzt].take k) [] (.trans (Le.nilH 2 Qj _ _ R R R) (Le.k [] [1,2,3] ?_)) rfl fun k o hk hi=>?_
 ·repeat' constructor
 repeat' first|(apply Ea;conv=>whnf)|apply Eb|apply Ec<;>intro _|apply Ed<;>intro _|apply Ee<;>intro _|apply Ef hT hP
 all_goals(try dsimp only[Qf] at *)
 all_goals clear hT hP
 ·rename_i g;have g:(k:Int)<1:=g;show 0≤(k:Int)∧(k:Int)<1;omega
 ·rename_i g;have g:(k:Int)<1:=g;obtain rfl:k=0:=by omega
  exact QkR
 ·rename_i g;have g:(k:Int)<1:=g;have hl:o.length≤1:=by rw[hi,List.length_take];exact Nat.min_le_right _ _
  show(o.length+1)*48≤140737488355328;omega
 ·rename_i g;have g:(k:Int)<1:=g;obtain rfl:k=0:=by omega
  obtain rfl:o=[]:=hi;apply Ex _ [] [0,1,7]
  ·repeat' constructor
  ·omega
  ·exact QL (by omega)
  rfl
 ·rename_i g;have g:¬(k:Int)<1:=g;obtain rfl:k=1:=by omega
  obtain rfl:o=[Qd5 Qzt]:=hi;exact .k [2] [] _ R R
def Qv6(d:Dv):Bool:=decide (List.length d.1≤100)&&(decide (List.length d.2≤100)&&d.2.all fun x=>decide (0≤x∧x<256))
theorem QkS{d:Dv}(h:Qv6 d=true):(List.length d.1≤100∧List.length d.2≤100)∧u8s d.2:=by
 unfold Qv6 at h;simp only[Bool.and_eq_true,decide_eq_true_eq,List.all_eq_true] at h;exact⟨⟨h.1,h.2.1⟩,fun x hx=>h.2.2 x hx⟩
theorem Qv7{m:Mach}(h:m.2.2.1.length≤10∧m.2.2.1.all Qv6=true):Qry QiV m:=by
 refine⟨⟨by decide,fun c hc=>?_⟩,⟨by have:=h.1;omega,fun d hd=>?_⟩,fun d hd=>?_⟩
 ·have hc:c∈[Qzt]:=hc;rw[List.mem_singleton] at hc;subst hc;exact QkR
 ·obtain⟨⟨h1,h2⟩,h3⟩:=QkS (List.all_eq_true.1 h.2 d hd);omega
 ·obtain⟨⟨h1,h2⟩,h3⟩:=QkS (List.all_eq_true.1 h.2 d hd);exact⟨by omega,h3⟩
theorem Qv8:Qk3.2.2.1.length≤10∧Qk3.2.2.1.all Qv6=true:=by decide +kernel
theorem QDz:(QiQ QiV Qk3 9 77).2.2.1.length≤10∧(QiQ QiV Qk3 9 77).2.2.1.all Qv6=true:=by decide +kernel
theorem Qzu:(bif true then (QnK QiV (QiQ QiV Qk3 9 77) 9==77) else false)=true:=by decide +kernel
def Qqd:PSpec:=⟨[],fun _=>(none,.agg [.imm (.string ⟨#[98]⟩),.imm (.string ⟨#[99]⟩),.imm (.slice none 0 0),.imm (.slice none 0 0),.imm (.slice none 0 0),.imm (.slice none 0 0),.ro Qe [Qzt],.imm (.slice none 0 0)],[])⟩
theorem Qju:G0 44 Qqd.spec:=by
 have hP:S0 _:=(Qb (T:=tree))
 have hT:=tabs hP Qc;refine Qqd.gd hT hP Tryz.func44 fun _=>?_
 repeat' first|(apply Ea;conv=>whnf)|apply Eb|apply Ec<;>intro _|apply Ed<;>intro _|apply Ee<;>intro _|apply Ef hT hP
 all_goals first
  |exact of_decide_eq_true rfl
  |exact .k [1] [] _ R R
  |skip
def QmA:PSpec:=⟨[],fun _=>(none,.cell (bv true),[])⟩
theorem QnT:G0 10 QmA.spec:=by
 have hP:S0 _:=Qa Qju (Qa Qqc (Qa Qy4 (Qa Qy3 (Qb (T:=tree)))));have hT:=tabs hP Qc;refine QmA.gd hT hP Tryz.func10 fun _=>?_
 repeat' first|(apply Ea;conv=>whnf)|apply Eb|apply Ec<;>intro _|apply Ed<;>intro _|apply Ee<;>intro _|apply Ef hT hP
 all_goals(try dsimp only[Qf] at *)
 all_goals clear hT hP
 ·exact rfl
 ·exact Qv7 Qv8
 ·exact Qv7 QDz
 ·exact .k [] [] _ rfl (Qi Qzu)
def QL2(b:Bd):Mach:=(0,([0,0,0,0,4,0,0,0,0],258,0,false),b.2.2.1.map Qd5,0,0,0)
def newM(b:Bd):Mach:=if Qak b=0 then QL2 b else QfV
theorem QJf:QcB QfV:=by
 refine⟨fun n hn=>?_,fun d hd=>(by cases hd),rfl,by decide⟩;have hn:n∈[0,0,0,0,0,0,0,0,0,0,0,0,(0:Int),0,0,0,0]:=hn;simp at hn;unfold Qam;omega
theorem QA6{α:Type}{f:α→Nat}{B:Nat}:∀{l:List α},(∀x∈l,f x≤B)→(l.map f).sum≤l.length*B
 | [],_=>Nat.zero_le _
 |x::r,h=>by
  have h1:=h x (List.mem_cons_self ..);have h2:=QA6 (l:=r) fun y hy=>h y (List.mem_cons_of_mem _ hy)
  rw[List.map_cons,List.sum_cons,List.length_cons,Nat.add_mul];omega
theorem Qg9{b:Bd}(h:Qak b=0):b.2.2.1.length≤12∧Qbc b.2.2.1=0:=by
 unfold Qak at h;split at h
 ·cases h
 ·split at h
  ·rename_i h1;exact absurd h h1
  ·split at h
   ·cases h
   ·rename_i h2;split at h
    ·rename_i h3;exact absurd h h3
    ·rename_i h3;exact⟨by omega,by omega⟩
structure MchP(b:Bd)(m:Mach)(l:List Inp):Prop where
 s:stP b m l
 l:QDp b m
 c:∀c∈b.2.2.1,u8s c.2.2.2.2
theorem Qa3(b:Bd)(l:List Inp):∀(k:Nat) (s:Mach×List Inp),QbE b l (k+1) s=((Qo b (QbE b l k s).1 l).1,(QbE b l k s).2++(Qo b (QbE b l k s).1 l).2)
 |0,s=>rfl
 |k+1,s=>by
  show QbE b l (k+1) ((Qo b s.1 l).1,s.2++(Qo b s.1 l).2)=_;rw[Qa3 b l k];rfl
def QgI(b:Bd)(m:Mach)(l:List Inp):Mach×List Inp:=if m.2.2.1.length=b.2.2.1.length then Qo b m l else (m,[])
def QeI(m:Mach)(i:Nat):V1:=.agg [iv .i64 m.1,.run .i64 9 m.2.1.1,iv .i64 m.2.1.2.1,iv .i64 m.2.1.2.2.1,bv m.2.1.2.2.2,.own i,iv .i64 m.2.2.2.1,iv .i64 m.2.2.2.2.1,iv .i64 m.2.2.2.2.2]
def QJg(b:Bd)(m:Mach)(l:List Inp):Prop:=(QwL m.2.2.1∧l.length≤4611686018427387904∧bdP b)∧Qa0 b.2.1 m.2.1∧(b.2.2.1.length=m.2.2.1.length→∃L,MOk L b m)
def QGz:PSpec:=⟨[gBd,gM,gIn],fun(b,m,l,_)=>(some (QJg b m l),.tup [QeI (QgI b m l).1 0,.c (.own 1)],[.arr Qj (QgI b m l).1.2.2.1,.arr Qw (QgI b m l).2])⟩
theorem QmB:G0 22 QGz.spec:=by
 have hP:S0 _:=Qa QkF (Qa Qp8 (Qb (T:=tree)));have hT:=tabs hP Qc;refine QGz.gd hT hP Tryz.func22 fun(b:Bd) (m:Mach) (l:List Inp) hq=>?_
 obtain⟨⟨h1,h2,h3⟩,h4,h5⟩:QJg b m l:=hq _ rfl;clear hq;have hE1:¬m.2.2.1.length=b.2.2.1.length→QgI b m l=(m,[]):=fun h=>if_neg h
 have hE2:m.2.2.1.length=b.2.2.1.length→QgI b m l=Qo b m l:=fun h=>if_pos h
 obtain⟨bn,⟨un,ui,ur,uq,um⟩,bc,bw⟩:=b;obtain⟨tm,⟨r,op,at_,nmi⟩,ds,bd,ba,bdt⟩:=m
 repeat' first|(apply Ea;conv=>whnf)|apply Eb|apply Ec<;>intro _|apply Ed<;>intro _|apply Ee<;>intro _|apply Ef hT hP
 all_goals(try dsimp only[Qf] at *)
 all_goals clear hT hP
 ·exact h1
 ·rename_i g;have g:=neN g;have e:=hE1 g;have e:QgI (bn,(un,ui,ur,uq,um),bc,bw) (tm,(r,op,at_,nmi),ds,bd,ba,bdt) l=((tm,(r,op,at_,nmi),ds,bd,ba,bdt),[]):=e;exact .le (Le.nil 7 Qw rfl) (.mk [] [3,4] _ R R R R R (congrArg (fun z:Mach×List Inp=>[some (Blk.arr Qj z.1.2.2.1),some (Blk.arr Qw z.2)]) e.symm) (congrArg (fun z:Mach×List Inp=>AV.tup [QeI z.1 0,.c (.own 1)]) e.symm))
 ·rename_i g;have g:=eqN g;exact⟨⟨⟨h2,h3⟩,h4⟩,h5 g.symm⟩
 ·rename_i g;have g:=eqN g;have e:QgI (bn,(un,ui,ur,uq,um),bc,bw) (tm,(r,op,at_,nmi),ds,bd,ba,bdt) l=Qo (bn,(un,ui,ur,uq,um),bc,bw) (tm,(r,op,at_,nmi),ds,bd,ba,bdt) l:=hE2 g;exact .mk [] [3,4] _ R R R R R (congrArg (fun z:Mach×List Inp=>[some (Blk.arr Qj z.1.2.2.1),some (Blk.arr Qw z.2)]) e.symm) (congrArg (fun z:Mach×List Inp=>AV.tup [QeI z.1 0,.c (.own 1)]) e.symm)
def nxS(b:Bd)(l:List Inp)(m:Mach)(o:List Inp):Mach×List Inp:=((Qo b m l).1,o++(Qo b m l).2)
theorem Qea{p q:Mach×List Inp}{e e':Int}(h:p=q)(h2:e=e'):AV.tup [QeI p.1 0,.c (.own 1),I1 e]=AV.tup [QeI q.1 0,.c (.own 1),I1 e']:=by rw[h,h2]
def QcX(b:Bd)(m:Mach)(l:List Inp)(n:Int):Mach×List Inp:=if QaQ b m l n=0 then QbE b l n.toNat (m,[]) else (QfV,[])
def QEa(b:Bd)(m:Mach)(l:List Inp):Prop:=(QwL m.2.2.1∧l.length≤4611686018427387904∧QD9 b)∧(QaQ b m l 0=0→Qa0 b.2.1 m.2.1)∧(QaQ b m l 0=0→∃L,MOk L b m)
def QGA:PSpec:=⟨[gBd,gM,gIn,gi],fun(b,m,l,n,_)=>(some (QEa b m l),.tup [QeI (QcX b m l n).1 0,.c (.own 1),I1 (QaQ b m l n)],[.arr Qj (QcX b m l n).1.2.2.1,.arr Qw (QcX b m l n).2])⟩
theorem Qe7{L:Nat}{b:Bd}{l:List Inp}{m:Mach}(h:MOk L b m)(ht:Qa0 b.2.1 m.2.1):∀k,MOk L b (QbE b l k (m,[])).1∧Qa0 b.2.1 (QbE b l k (m,[])).1.2.1∧(QbE b l k (m,[])).2.length≤k*b.2.2.1.length
 |0=>⟨h,ht,Nat.zero_le _⟩
 |k+1=>by
  obtain⟨h1,h2,h3⟩:=Qe7 h ht k;rw[Qa3];refine⟨Qza l h1,⟨h2.1,h2.2.1,Qih _ _ _⟩,?_⟩;have h4:(Qo b (QbE b l k (m,[])).1 l).2.length≤b.2.2.1.length:=Qbr _ _ _ _;rw[List.length_append,Nat.add_mul];omega
theorem QnU:G0 28 QGA.spec:=by
 have hP:S0 _:=Qa Qv4 (Qa QkF (Qa Qp8 (Qb (T:=tree))));have hT:=tabs hP Qc;refine QGA.gd hT hP Tryz.func28 fun(b:Bd) (m:Mach) (l:List Inp) (n:Int) hq=>?_
 obtain⟨⟨h1,h2,h3⟩,h4,h5⟩:QEa b m l:=hq _ rfl;clear hq;have hE:QaQ b m l n=if Qaw b m l≠0 then Qaw b m l else if n<0 then 1 else if n>100000 then 2 else 0:=rfl
 have hM1:QaQ b m l n≠0→QcX b m l n=(QfV,[]):=fun h=>if_neg h
 have hM2:QaQ b m l n=0→QcX b m l n=QbE b l n.toNat (m,[]):=fun h=>if_pos h
 have hE0:Qaw b m l=0→QaQ b m l 0=0:=fun h=>by
  show(if Qaw b m l≠0 then Qaw b m l else if (0:Int)<0 then 1 else if (0:Int)>100000 then 2 else 0)=0;rw[if_neg (fun hh=>hh h)];rfl
 have hS:=fun h=>Qd9 (b:=b) (m:=m) (l:=l) h
 have h6:=h3.1;obtain⟨bn,⟨un,ui,ur,uq,um⟩,bc,bw⟩:=b;obtain⟨tm,⟨r,op,at_,nmi⟩,ds,bd,ba,bdt⟩:=m
 repeat' first|(apply Ea;conv=>whnf)|apply Eb|apply Ec<;>intro _|apply Ed<;>intro _|apply Ee<;>intro _|apply Ef hT hP
 all_goals(try dsimp only[Qf] at *)
 ·exact⟨h3,h2⟩
 ·rename_i g;have g:=QbM (x:=Qaw (bn,(un,ui,ur,uq,um),bc,bw) (tm,(r,op,at_,nmi),ds,bd,ba,bdt) l) g;have e:QaQ (bn,(un,ui,ur,uq,um),bc,bw) (tm,(r,op,at_,nmi),ds,bd,ba,bdt) l n=Qaw (bn,(un,ui,ur,uq,um),bc,bw) (tm,(r,op,at_,nmi),ds,bd,ba,bdt) l:=by rw[hE];exact if_pos g
  have e2:=hM1 (by rw[e];exact g);exact .le (.trans (Le.nilH 2 Qj _ _ R R R) (Le.nil 9 Qw rfl)) (.mk [] [3,4] _ R R R R R (congrArg (fun z:Mach×List Inp=>[some (Blk.arr Qj z.1.2.2.1),some (Blk.arr Qw z.2)]) e2.symm) (Qea (p:=(QfV,[])) e2.symm e.symm))
 ·rename_i g0 g;have g0:=Qap (x:=Qaw (bn,(un,ui,ur,uq,um),bc,bw) (tm,(r,op,at_,nmi),ds,bd,ba,bdt) l) g0;have g:n<0:=g;have e:QaQ (bn,(un,ui,ur,uq,um),bc,bw) (tm,(r,op,at_,nmi),ds,bd,ba,bdt) l n=1:=by rw[hE];exact(if_neg (fun h=>h g0)).trans (if_pos g)
  have e2:=hM1 (by rw[e];decide);exact .le (.trans (Le.nilH 2 Qj _ _ R R R) (Le.nil 9 Qw rfl)) (.mk [] [3,4] _ R R R R R (congrArg (fun z:Mach×List Inp=>[some (Blk.arr Qj z.1.2.2.1),some (Blk.arr Qw z.2)]) e2.symm) (Qea (p:=(QfV,[])) e2.symm e.symm))
 ·rename_i g0 g1 g;have g0:=Qap (x:=Qaw (bn,(un,ui,ur,uq,um),bc,bw) (tm,(r,op,at_,nmi),ds,bd,ba,bdt) l) g0;have g:n>100000:=g;have e:QaQ (bn,(un,ui,ur,uq,um),bc,bw) (tm,(r,op,at_,nmi),ds,bd,ba,bdt) l n=2:=by rw[hE];exact(if_neg (fun h=>h g0)).trans ((if_neg g1).trans (if_pos g))
  have e2:=hM1 (by rw[e];decide);exact .le (.trans (Le.nilH 2 Qj _ _ R R R) (Le.nil 9 Qw rfl)) (.mk [] [3,4] _ R R R R R (congrArg (fun z:Mach×List Inp=>[some (Blk.arr Qj z.1.2.2.1),some (Blk.arr Qw z.2)]) e2.symm) (Qea (p:=(QfV,[])) e2.symm e.symm))
 ·exact h1
 rename_i g0 g1 g2;have g0:=Qap (x:=Qaw (bn,(un,ui,ur,uq,um),bc,bw) (tm,(r,op,at_,nmi),ds,bd,ba,bdt) l) g0;have g1:¬n<0:=g1;have g2:¬n>100000:=g2;obtain⟨N,rfl⟩:=Int.eq_ofNat_of_zero_le (show 0≤n by omega);have e:QaQ (bn,(un,ui,ur,uq,um),bc,bw) (tm,(r,op,at_,nmi),ds,bd,ba,bdt) l (N:Int)=0:=by rw[hE];exact(if_neg (fun h=>h g0)).trans ((if_neg g1).trans (if_neg g2))
 have e2:QcX (bn,(un,ui,ur,uq,um),bc,bw) (tm,(r,op,at_,nmi),ds,bd,ba,bdt) l (N:Int)=QbE (bn,(un,ui,ur,uq,um),bc,bw) l N ((tm,(r,op,at_,nmi),ds,bd,ba,bdt),[]):=hM2 e;have ht:=h4 (hE0 g0);obtain⟨L,hMo⟩:=h5 (hE0 g0);have hbl:bc.length≤12:=(Qg9 (b:=(bn,(un,ui,ur,uq,um),bc,bw)) (hS g0).1).1
 refine QH hT hP (A:=Mach×List Inp) N (fun i s=>St.mk (E2 ((.cell (.ro Qw l))::E1 ((.cell (.ptr 0 0))::(.cell (.ptr 1 0))::E2 ((.cell (.ptr 2 0))::E3 ((.cell (.own 4))::E10 (E5 (E3 ((I N)::(I i)::E5 (E3 (E1 []))))))))))
  [some (.var [.imm (.string bn),.imm (.string un),.ro QaA ui,.ro Qs ur,.ro Qs uq,.ro Qs um,.ro Qe bc,.ro Qr bw]),
   some (.var [iv .i64 s.1.1,.run .i64 9 s.1.2.1.1,iv .i64 s.1.2.1.2.1,iv .i64 s.1.2.1.2.2.1,bv s.1.2.1.2.2.2,.own 3,iv .i64 s.1.2.2.2.1,iv .i64 s.1.2.2.2.2.1,iv .i64 s.1.2.2.2.2.2]),
   some (.var [.imm (.int .i64 0),.run .i64 9 (List.replicate 9 0),.imm (.int .i64 0),.imm (.int .i64 0),.imm (.bool false),.imm (.slice none 0 0),.imm (.int .i64 0),.imm (.int .i64 0),.imm (.int .i64 0)]),some (.arr Qj s.1.2.2.1),some (.arr Qw s.2)])
  (fun k s=>s=QbE (bn,(un,ui,ur,uq,um),bc,bw) l k ((tm,(r,op,at_,nmi),ds,bd,ba,bdt),[])) ((tm,(r,op,at_,nmi),ds,bd,ba,bdt),[]) (.trans (Le.nil 12 Qw rfl) (Le.k [] [0,1,2,3,4] ?_)) rfl fun k s hk hi=>?_
 ·repeat' constructor
 have hro:=Qe7 (l:=l) hMo ht k;rw[←hi] at hro;have hnx:nxS (bn,(un,ui,ur,uq,um),bc,bw) l s.1 s.2=QbE (bn,(un,ui,ur,uq,um),bc,bw) l (k+1) ((tm,(r,op,at_,nmi),ds,bd,ba,bdt),[]):=by rw[Qa3,←hi];rfl
 obtain⟨⟨tm1,⟨r1,op1,at1,nmi1⟩,ds1,bd1,ba1,bdt1⟩,o⟩:=s;have hcl:(Qo (bn,(un,ui,ur,uq,um),bc,bw) (tm1,(r1,op1,at1,nmi1),ds1,bd1,ba1,bdt1) l).2.length≤bc.length:=Qbr _ _ _ _;have hol:o.length≤k*bc.length:=hro.2.2
 repeat' first|(apply Ea;conv=>whnf)|apply Eb|apply Ec<;>intro _|apply Ed<;>intro _|apply Ee<;>intro _|apply Ef hT hP
 all_goals(try dsimp only[Qf] at *)
 all_goals clear hT hP
 ·exact⟨⟨⟨h2,h6⟩,hro.2.1⟩,L,hro.1⟩
 ·have g:(k:Int)<(N:Int):=by assumption
  have h7:k*bc.length≤100000*12:=Nat.mul_le_mul (by omega) hbl;show(o.length+(Qo (bn,(un,ui,ur,uq,um),bc,bw) (tm1,(r1,op1,at1,nmi1),ds1,bd1,ba1,bdt1) l).2.length)*32≤140737488355328;omega
 ·rename_i g;have g:(k:Int)<(N:Int):=g;apply Ex (nxS (bn,(un,ui,ur,uq,um),bc,bw) l (tm1,(r1,op1,at1,nmi1),ds1,bd1,ba1,bdt1) o) [] [0,1,2,3,6]
  ·repeat' constructor
  ·omega
  ·exact QL (by omega)
  exact hnx
 ·rename_i g;have g:¬(k:Int)<(N:Int):=g;have ek:k=N:=by omega
  subst ek;have e3:((tm1,(r1,op1,at1,nmi1),ds1,bd1,ba1,bdt1),o)=QcX (bn,(un,ui,ur,uq,um),bc,bw) (tm,(r,op,at_,nmi),ds,bd,ba,bdt) l (k:Int):=by rw[e2];exact hi
  exact .mk [] [3,4] _ R R R R R (congrArg (fun z:Mach×List Inp=>[some (Blk.arr Qj z.1.2.2.1),some (Blk.arr Qw z.2)]) e3) (Qea (p:=((tm1,(r1,op1,at1,nmi1),ds1,bd1,ba1,bdt1),o)) e3 e.symm)
def QGB:PSpec:=⟨[gBd,gM,gIn,gi],fun(b,m,l,n,_)=>(some (stP b m l),I (QaQ b m l n),[])⟩
theorem Qjv:G0 26 QGB.spec:=by
 have hP:S0 _:=Qa Qv5 (Qb (T:=tree));have hT:=tabs hP Qc;refine QGB.gd hT hP Tryz.func26 fun(b:Bd) (m:Mach) (l:List Inp) (n:Int) hq=>?_
 have h:stP b m l:=hq _ rfl;clear hq;have hE:QaQ b m l n=if Qaw b m l≠0 then Qaw b m l else if n<0 then 1 else if n>100000 then 2 else 0:=rfl
 obtain⟨bn,⟨un,ui,ur,uq,um⟩,bc,bw⟩:=b;obtain⟨tm,⟨r,op,at_,nmi⟩,ds,bd,ba,bdt⟩:=m;generalize hb:((bn,(un,ui,ur,uq,um),bc,bw):Bd)=b at *;generalize hm:((tm,(r,op,at_,nmi),ds,bd,ba,bdt):Mach)=m at *;subst hb hm
 repeat' first|(apply Ea;conv=>whnf)|apply Eb|apply Ec<;>intro _|apply Ed<;>intro _|apply Ee<;>intro _|apply Ef hT hP
 all_goals(try dsimp only[Qf] at *)
 all_goals clear hT hP
 all_goals first
  |exact h
  |(refine .k [] [] _ rfl (Qd ?_)
    rw[hE]
    repeat' split
    all_goals omega)
  |skip
def QA7:PSpec:=⟨[gBd,gM,gIn],fun(b,m,l,_)=>(some (QEa b m l),.tup [QeI (QcX b m l 1).1 0,.c (.own 1),I1 (QaQ b m l 1)],[.arr Qj (QcX b m l 1).1.2.2.1,.arr Qw (QcX b m l 1).2])⟩
theorem Qv9:G0 25 QA7.spec:=by
 have hP:S0 _:=Qa QnU (Qb (T:=tree));have hT:=tabs hP Qc;refine QA7.gd hT hP Tryz.func25 fun(b:Bd) (m:Mach) (l:List Inp) hq=>?_
 have h:QEa b m l:=hq _ rfl;clear hq;obtain⟨bn,⟨un,ui,ur,uq,um⟩,bc,bw⟩:=b;obtain⟨tm,⟨r,op,at_,nmi⟩,ds,bd,ba,bdt⟩:=m
 repeat' first|(apply Ea;conv=>whnf)|apply Eb|apply Ec<;>intro _|apply Ed<;>intro _|apply Ee<;>intro _|apply Ef hT hP
 all_goals(try dsimp only[Qf] at *)
 all_goals clear hT hP
 ·exact h
 ·exact .k [] [3,4] _ R R
end Go.Proofs.YtofgbclopbmlcaaGreat

