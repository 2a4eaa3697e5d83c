/- Part 14 of the proof. Conditions: none. -/
import Derived.Test.YtofgbclopbmlcaaGreatG13
namespace Go.Proofs.YtofgbclopbmlcaaGreat
set_option maxHeartbeats 4000000
open Go.Fw
set_option linter.unusedVariables false
set_option linter.unusedSimpArgs false
set_option maxRecDepth 100000
abbrev Bsv:=Int×Int×Int
def Qk(c:Cpu)(k:Kor)(irq:Bool):Kor×Bsv :=
 let k1:Kor:=if k.2.1=-1 then Qbm c (QH k.1,k.2) irq else (QH k.1,k.2)
 if k1.2.1=-1 then ((plR 0 k1.1,k1.2),(1,plA 0 k1.1,0))
 else if Qfg c k1.2.1 k1.2.2.1=false∨(doF c k1.2.1 k1.2.2.1).1=0 then (k1,(0,0,0))
 else
  let x:=doF c k1.2.1 k1.2.2.1
  ((plR x.2.1 k1.1,k1.2),(x.1,plA x.2.1 k1.1,if x.1=2∧0≤x.2.2.1∧x.2.2.1<9 then k1.1.getD x.2.2.1.toNat 0%256 else 0))
theorem QHj{r:List Int}{a b:Int}{n:Bool}{p q s:Int}{x:Kor×Bsv}(h:((r,a,b,n),(p,q,s))=x):AV.tup [.agg [.run .i64 9 r,iv .i64 a,iv .i64 b,bv n],.agg [iv .i64 p,iv .i64 q,iv .i64 s]] =
 AV.tup [.agg [.run .i64 9 x.1.1,iv .i64 x.1.2.1,iv .i64 x.1.2.2.1,bv x.1.2.2.2],.agg [iv .i64 x.2.1,iv .i64 x.2.2.1,iv .i64 x.2.2.2]]:=by subst h;rfl
def QLW(c:Cpu)(k:Kor):Prop:=c.2.1.length≤4611686018427387904∧k.1.length=9
theorem Qew(c:Cpu)(k:Kor)(i:Bool):(Qbm c k i).1=k.1:=by
 unfold Qbm;split
 ·rfl
 ·split<;>rfl
def QII:PSpec:=⟨[Qyu,gK,gB],fun(c,k,i,_)=>(some (QLW c k),.tup [.agg [.run .i64 9 (Qk c k i).1.1,iv .i64 (Qk c k i).1.2.1,iv .i64 (Qk c k i).1.2.2.1,bv (Qk c k i).1.2.2.2],.agg [iv .i64 (Qk c k i).2.1,iv .i64 (Qk c k i).2.2.1,iv .i64 (Qk c k i).2.2.2]],[])⟩
theorem QBy:G0 132 QII.spec:=by
 have d:S0 _:=Qa QnH (Qa Qyy (Qa QuF (Qa QpM (Qa QU (Qb (T:=tree))))));have e:=tabs d Qc;refine QII.gd e d Tryz.func132 fun(c:Cpu) (k:Kor) (i:Bool) g=>?_
 obtain⟨w,f,t,u,j⟩:=c;obtain⟨r,op,at_,n⟩:=k;obtain⟨m,y⟩:f.length≤4611686018427387904∧r.length=9:=g _ rfl;clear g
 repeat' first|(apply Ea;conv=>whnf)|apply Eb|apply Ec|apply Ed|apply Ee|(apply Ei;intro _)|apply Ef e d
 all_goals first
  |exact Ya rfl
  |exact m
  |exact y
  |exact⟨m,_,rfl⟩
  |exact⟨_,rfl⟩
  |skip
 all_goals(try refine .k [] [] _ rfl (QHj ?_))
 all_goals(simp only[Qf,Qk] at *)
 all_goals
  have hs:=Qew (w,f,t,u,j) (QH r,op,at_,n) i;generalize Qbm (w,f,t,u,j) (QH r,op,at_,n) i=z at *;obtain⟨r2,o2,a2,n2⟩:=z;dsimp only at *;subst hs
 all_goals(try exact⟨_,rfl⟩)
 all_goals(try omega)
 all_goals clear e d
 all_goals(try simp_all)
 all_goals(try omega)
theorem Qqe(r:List Int)(n:Nat):0≤(QH r).getD n 0∧(QH r).getD n 0<65536:=by
 match n with
 |0|1|2|3|4|5|6|7|8=>simp[QH];omega
 |n+9=>simp[QH]
theorem Qzi(r:List Int)(n:Nat)(k:Int):((QH r).getD n 0).tmod k=(QH r).getD n 0%k:=Yi (Qqe r n).1
theorem Qzj(r:List Int)(n:Nat)(k:Int):((QH r).getD n 0).tdiv k=(QH r).getD n 0/k:=Yp (Qqe r n).1
theorem QDZ(r:List Int)(n:Nat):(IntKind.i64.wrap ((QH r).getD n 0+1)).tmod 65536=((QH r).getD n 0+1)%65536:=by
 have:=Qqe r n;rw[w64 (by omega) (by omega),Yi (by omega)]
theorem QNW(r:List Int):(IntKind.i64.wrap ((QH r).getD 4 0/4)).tmod 2=(QH r).getD 4 0/4%2:=by
 have:=Qqe r 4;rw[w64 (by omega) (by omega),Yi (by omega)]
theorem QKJ:(dflt Qp:Cyc)=QaD:=rfl
theorem i0:Int.toNat 0=0:=rfl
theorem i4:Int.toNat 4=4:=rfl
theorem i7:Int.toNat 7=7:=rfl
theorem QNX(c:Cpu):QW c 256=c.2.2.2.1:=rfl
theorem QNY(c:Cpu):QW c 257=c.2.2.2.2:=rfl
theorem Qzk:G0 74 QII.spec:=by
 have d:S0 _:=Qa QkA (Qa QpL (Qa Qyw (Qa QG (Qa Qq (Qb (T:=tree))))));have e:=tabs d Qc;refine QII.gd e d Tryz.func74 fun(c:Cpu) (k:Kor) (i:Bool) g=>?_
 obtain⟨w,f,t,u,j⟩:=c;obtain⟨r,op,at_,n⟩:=k;obtain⟨m,y⟩:f.length≤4611686018427387904∧r.length=9:=g _ rfl;clear g
 repeat' first|(apply Ea;conv=>whnf)|apply Eb|apply Ec|apply Ed|apply Ee|(apply Ei;intro _)|apply Ef e d
 all_goals first
  |exact Ya rfl
  |exact m
  |exact y
  |exact⟨_,rfl⟩
  |skip
 all_goals(try refine .k [] [] _ rfl (QHj ?_))
 all_goals(simp only[Qf] at *)
 all_goals(try omega)
 all_goals clear e d
 all_goals(try simp only[Qzj,i4,i7,i0] at *)
 all_goals(try simp only[Qzi,QNW,QDZ,QKJ] at *)
 all_goals(try simp_all [Qk,Qbm,Qfg,doF,QNX,QNY,plA,plR])
 all_goals(try omega)
 ·exfalso;rename_i g1 g2 g3 g4;have g4:(0:Int)≥(j.length:Int):=g4;omega
 ·rename_i g1 g2;have hc:Qfg (w,f,t,u,j) op at_=false:=by unfold Qfg;rw[Yn (show¬0≤at_ by omega)];simp
  simp only[Qk,Yb g1,hc,true_or,if_true]
end Go.Proofs.YtofgbclopbmlcaaGreat

