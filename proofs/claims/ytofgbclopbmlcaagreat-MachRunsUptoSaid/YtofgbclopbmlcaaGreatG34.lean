/- Part 34 of the proof. Conditions: none. -/
import Derived.Test.YtofgbclopbmlcaaGreatG33
import Derived.Test.YtofgbclopbmlcaaGreatG32
import Derived.Test.YtofgbclopbmlcaaGreatG24
import Derived.Test.YtofgbclopbmlcaaGreatG25
namespace Go.Proofs.YtofgbclopbmlcaaGreat
open Go.Fw
set_option linter.unusedVariables false
set_option linter.unusedSimpArgs false
set_option linter.constructorNameAsVariable false
set_option maxRecDepth 100000
theorem kxg{k:Int}(h:k<0∨8<k):k≠4∧k≠5∧k≠8:=by omega
theorem kxa{k:Int}(h:k<0∨8<k):k≠3∧k≠5∧k≠8:=by omega
theorem kxs{k:Int}(h:k<0∨8<k):k<4∨8<k:=by omega
def Qyj:PSpec:=⟨[gC,gD,gi],fun(c,d,a,_)=>(some (cP c∧dP d),.tup [QiM,I1 (loadI c d a)],[.arr (.int .i64) (loadD c d a).1,.arr (.int .u8) (loadD c d a).2])⟩
theorem Qrq:G0 76 Qyj.spec:=by
 refine QQ.sel Qct fun(c,d,a,_) hp=>?_
 obtain⟨cn,ck,cb,cs,cd⟩:=c;obtain⟨N,M⟩:=d;obtain⟨hc,hl,hu⟩:cP (cn,ck,cb,cs,cd)∧dP (N,M):=hp _ rfl;clear hp;show∃o1:Args [gC,gD,gi]→Option Prop×AV×List Blk,_;rcases kinds ck with rfl|rfl|rfl|rfl|rfl|rfl|rfl|rfl|rfl|hx
 ·exact⟨_,Qct,fun q hq=>by cases hq;exact⟨⟨hc,hl,hu⟩,.inl rfl⟩,.refl⟩
 ·exact⟨_,Qct,fun q hq=>by cases hq;exact⟨⟨hc,hl,hu⟩,.inr (.inl rfl)⟩,.refl⟩
 ·exact⟨_,Qct,fun q hq=>by cases hq;exact⟨⟨hc,hl,hu⟩,.inr (.inr (.inl rfl))⟩,.refl⟩
 ·exact⟨_,Qq4,fun q hq=>by cases hq;rfl,.nil (.int .u8) rfl .refl⟩
 ·exact⟨_,Qq1,fun q hq=>by cases hq;rfl,.nil (.int .u8) rfl .refl⟩
 ·exact⟨_,Qq5,fun q hq=>by cases hq;rfl,.nil (.int .u8) rfl .refl⟩
 ·exact⟨_,Qrf,fun q hq=>by cases hq;exact⟨rfl,hu⟩,.refl⟩
 ·exact⟨_,Qrc,fun q hq=>by cases hq;rfl,.nil (.int .u8) rfl .refl⟩
 ·exact⟨_,Qnm,fun q hq=>by cases hq;exact⟨rfl,hl⟩,.refl⟩
 ·exact⟨_,Qct,fun q hq=>by cases hq;exact⟨⟨hc,hl,hu⟩,.inr (.inr (.inr hx))⟩,.refl⟩
def Qyk:PSpec:=⟨[gC,gD,gi,gi],fun(c,d,a,k,_)=>(some (cP c∧dP d),Qdv,[.arr (.int .i64) (Qbb c d a k).1,.arr (.int .u8) (Qbb c d a k).2])⟩
theorem Qrr:G0 77 Qyk.spec:=by
 refine QQ.sel Qcu fun(c,d,a,k,_) hp=>?_
 obtain⟨cn,ck,cb,cs,cd⟩:=c;obtain⟨N,M⟩:=d;obtain⟨hc,hl,hu⟩:cP (cn,ck,cb,cs,cd)∧dP (N,M):=hp _ rfl;clear hp;show∃o1:Args [gC,gD,gi,gi]→Option Prop×AV×List Blk,_;rcases kinds ck with rfl|rfl|rfl|rfl|rfl|rfl|rfl|rfl|rfl|hx
 ·exact⟨_,Qcu,fun q hq=>by cases hq;exact⟨⟨hc,hl,hu⟩,.inl rfl⟩,.refl⟩
 ·exact⟨_,Qcu,fun q hq=>by cases hq;exact⟨⟨hc,hl,hu⟩,.inr (.inl rfl)⟩,.refl⟩
 ·exact⟨_,Qcu,fun q hq=>by cases hq;exact⟨⟨hc,hl,hu⟩,.inr (.inr (.inl rfl))⟩,.refl⟩
 ·exact⟨_,Qq3,fun q hq=>by cases hq;rfl,.nil (.int .u8) rfl .refl⟩
 ·exact⟨_,QqZ,fun q hq=>by cases hq;rfl,.nil (.int .u8) rfl .refl⟩
 ·exact⟨_,Qq6,fun q hq=>by cases hq;rfl,.nil (.int .u8) rfl .refl⟩
 ·exact⟨_,Qrg,fun q hq=>by cases hq;rfl,.refl⟩
 ·exact⟨_,Qrd,fun q hq=>by cases hq;rfl,.nil (.int .u8) rfl .refl⟩
 ·exact⟨_,Qnn,fun q hq=>by cases hq;exact⟨rfl,hl⟩,.refl⟩
 ·exact⟨_,Qcu,fun q hq=>by cases hq;exact⟨⟨hc,hl,hu⟩,.inr (.inr (.inr hx))⟩,.refl⟩
def QCD:PSpec:=⟨[gC,gD,gi],fun(c,d,k,_)=>(some (cP c∧dP d),Qdv,[.arr (.int .i64) (Qmc c d k).1,.arr (.int .u8) (Qmc c d k).2])⟩
theorem Quu:G0 73 QCD.spec:=by
 refine QQ.sel Qbv fun(c,d,k,_) hp=>?_
 obtain⟨cn,ck,cb,cs,cd⟩:=c;obtain⟨N,M⟩:=d;obtain⟨hc,hl,hu⟩:cP (cn,ck,cb,cs,cd)∧dP (N,M):=hp _ rfl;clear hp;show∃o1:Args [gC,gD,gi]→Option Prop×AV×List Blk,_;rcases kinds ck with rfl|rfl|rfl|rfl|rfl|rfl|rfl|rfl|rfl|hx
 ·exact⟨_,Qbv,fun q hq=>by cases hq;exact⟨⟨hc,hl,hu⟩,(by decide:(0:Int)≠4∧(0:Int)≠5∧(0:Int)≠8)⟩,.refl⟩
 ·exact⟨_,Qbv,fun q hq=>by cases hq;exact⟨⟨hc,hl,hu⟩,(by decide:(1:Int)≠4∧(1:Int)≠5∧(1:Int)≠8)⟩,.refl⟩
 ·exact⟨_,Qbv,fun q hq=>by cases hq;exact⟨⟨hc,hl,hu⟩,(by decide:(2:Int)≠4∧(2:Int)≠5∧(2:Int)≠8)⟩,.refl⟩
 ·exact⟨_,Qbv,fun q hq=>by cases hq;exact⟨⟨hc,hl,hu⟩,(by decide:(3:Int)≠4∧(3:Int)≠5∧(3:Int)≠8)⟩,.refl⟩
 ·exact⟨_,Qty,fun q hq=>by cases hq;rfl,.nil (.int .u8) rfl .refl⟩
 ·exact⟨_,QtN,fun q hq=>by cases hq;rfl,.nil (.int .u8) rfl .refl⟩
 ·exact⟨_,Qbv,fun q hq=>by cases hq;exact⟨⟨hc,hl,hu⟩,(by decide:(6:Int)≠4∧(6:Int)≠5∧(6:Int)≠8)⟩,.refl⟩
 ·exact⟨_,Qbv,fun q hq=>by cases hq;exact⟨⟨hc,hl,hu⟩,(by decide:(7:Int)≠4∧(7:Int)≠5∧(7:Int)≠8)⟩,.refl⟩
 ·exact⟨_,QqY,fun q hq=>by cases hq;exact⟨rfl,hl⟩,.refl⟩
 ·refine⟨_,Qbv,fun q hq=>by cases hq;exact⟨⟨hc,hl,hu⟩,kxg hx⟩,?_⟩;have e:Q4 (cn,ck,cb,cs,cd) (N,M)=Qmc (cn,ck,cb,cs,cd) (N,M) k:=by unfold Q4 Qmc;rw[Qaa hx,Qaa hx]
  show Conv (Qdv,[Blk.arr (.int .i64) (Q4 (cn,ck,cb,cs,cd) (N,M)).1,.arr (.int .u8) (Q4 (cn,ck,cb,cs,cd) (N,M)).2]) _;rw[e];exact .refl
def Qaz(c:Cv)(d:Dv):Bool:=sel c.2.1 false (decide (tF d.1=1)&&decide (tC d.1≥4)) false (QcQ d.1) false false (QBW d.1) false
def Qal(c:Cv)(d:Dv):Int:=sel c.2.1 0 0 (land .i64 (d.1.getD 1 0%256) (d.1.getD 2 0%256)) (s6 d.1*256+s7 d.1) (QY (vM d.2) (vP d.1)) (QiL d.1) (e1 d.1) 0
def Qb8(c:Cv)(d:Dv):Int:=sel c.2.1 100000 (Qb6 d.1) 100000 (Qb7 d.1) (Qb5 (vM d.2) (vP d.1)) (Qpg d.1) (Qc6 d.1) 100000
def Qyl:PSpec:=⟨[gC,gD],fun(c,d,_)=>(some (cP c∧dP d),.cell (bv (Qaz c d)),[])⟩
theorem Qrs:G0 16 Qyl.spec:=by
 refine QQ.sel QaZ fun(c,d,_) hp=>?_
 obtain⟨cn,ck,cb,cs,cd⟩:=c;obtain⟨N,M⟩:=d;obtain⟨hc,hl,hu⟩:cP (cn,ck,cb,cs,cd)∧dP (N,M):=hp _ rfl;clear hp;show∃o1:Args [gC,gD]→Option Prop×AV×List Blk,_;rcases kinds ck with rfl|rfl|rfl|rfl|rfl|rfl|rfl|rfl|rfl|hx
 ·exact⟨_,QaZ,fun q hq=>by cases hq;exact⟨⟨hc,hl,hu⟩,(by decide:(0:Int)≠3∧(0:Int)≠5∧(0:Int)≠8)⟩,.refl⟩
 ·exact⟨_,QaZ,fun q hq=>by cases hq;exact⟨⟨hc,hl,hu⟩,(by decide:(1:Int)≠3∧(1:Int)≠5∧(1:Int)≠8)⟩,.refl⟩
 ·exact⟨_,QaZ,fun q hq=>by cases hq;exact⟨⟨hc,hl,hu⟩,(by decide:(2:Int)≠3∧(2:Int)≠5∧(2:Int)≠8)⟩,.refl⟩
 ·exact⟨_,QCe,fun q hq=>by cases hq;rfl,.refl⟩
 ·exact⟨_,QaZ,fun q hq=>by cases hq;exact⟨⟨hc,hl,hu⟩,(by decide:(4:Int)≠3∧(4:Int)≠5∧(4:Int)≠8)⟩,.refl⟩
 ·exact⟨_,QCg,fun q hq=>by cases hq;rfl,.refl⟩
 ·exact⟨_,QaZ,fun q hq=>by cases hq;exact⟨⟨hc,hl,hu⟩,(by decide:(6:Int)≠3∧(6:Int)≠5∧(6:Int)≠8)⟩,.refl⟩
 ·exact⟨_,QaZ,fun q hq=>by cases hq;exact⟨⟨hc,hl,hu⟩,(by decide:(7:Int)≠3∧(7:Int)≠5∧(7:Int)≠8)⟩,.refl⟩
 ·exact⟨_,QBY,fun q hq=>by cases hq;exact⟨rfl,hl⟩,.refl⟩
 ·refine⟨_,QaZ,fun q hq=>by cases hq;exact⟨⟨hc,hl,hu⟩,kxa hx⟩,?_⟩;have e:Qaz (cn,ck,cb,cs,cd) (N,M)=false:=by unfold Qaz;rw[Qaa hx]
  show Conv (AV.cell (bv false),[]) (AV.cell (bv (Qaz (cn,ck,cb,cs,cd) (N,M))),[]);rw[e];exact .refl
def QCE:PSpec:=⟨[gC,gD],fun(c,d,_)=>(some (cP c∧dP d),I (Qal c d),[])⟩
theorem Quv:G0 72 QCE.spec:=by
 refine QQ.sel Qch fun(c,d,_) hp=>?_
 obtain⟨cn,ck,cb,cs,cd⟩:=c;obtain⟨N,M⟩:=d;obtain⟨hc,hl,hu⟩:cP (cn,ck,cb,cs,cd)∧dP (N,M):=hp _ rfl;clear hp;show∃o1:Args [gC,gD]→Option Prop×AV×List Blk,_;rcases kinds ck with rfl|rfl|rfl|rfl|rfl|rfl|rfl|rfl|rfl|hx
 ·exact⟨_,Qch,fun q hq=>by cases hq;exact⟨⟨hc,hl,hu⟩,.inl (by decide:(0:Int)<4)⟩,.refl⟩
 ·exact⟨_,Qch,fun q hq=>by cases hq;exact⟨⟨hc,hl,hu⟩,.inl (by decide:(1:Int)<4)⟩,.refl⟩
 ·exact⟨_,Qch,fun q hq=>by cases hq;exact⟨⟨hc,hl,hu⟩,.inl (by decide:(2:Int)<4)⟩,.refl⟩
 ·exact⟨_,Qch,fun q hq=>by cases hq;exact⟨⟨hc,hl,hu⟩,.inl (by decide:(3:Int)<4)⟩,.refl⟩
 ·exact⟨_,Qtw,fun q hq=>by cases hq;rfl,.refl⟩
 ·exact⟨_,QtP,fun q hq=>by cases hq;rfl,.refl⟩
 ·exact⟨_,Qt3,fun q hq=>by cases hq;exact⟨rfl,hu⟩,.refl⟩
 ·exact⟨_,QtY,fun q hq=>by cases hq;rfl,.refl⟩
 ·exact⟨_,Qtf,fun q hq=>by cases hq;exact⟨rfl,hl⟩,.refl⟩
 ·refine⟨_,Qch,fun q hq=>by cases hq;exact⟨⟨hc,hl,hu⟩,kxs hx⟩,?_⟩;have e:Qal (cn,ck,cb,cs,cd) (N,M)=0:=by unfold Qal;rw[Qaa hx]
  show Conv (I 0,[]) (I (Qal (cn,ck,cb,cs,cd) (N,M)),[]);rw[e];exact .refl
def QCF:PSpec:=⟨[gC,gD],fun(c,d,_)=>(some (cP c∧dP d),I (Qb8 c d),[])⟩
theorem Quw:G0 29 QCF.spec:=by
 refine QQ.sel Qci fun(c,d,_) hp=>?_
 obtain⟨cn,ck,cb,cs,cd⟩:=c;obtain⟨N,M⟩:=d;obtain⟨hc,hl,hu⟩:cP (cn,ck,cb,cs,cd)∧dP (N,M):=hp _ rfl;clear hp;show∃o1:Args [gC,gD]→Option Prop×AV×List Blk,_;rcases kinds ck with rfl|rfl|rfl|rfl|rfl|rfl|rfl|rfl|rfl|hx
 ·exact⟨_,Qci,fun q hq=>by cases hq;exact⟨⟨hc,hl,hu⟩,.inl (by decide:(0:Int)<3)⟩,.refl⟩
 ·exact⟨_,Qci,fun q hq=>by cases hq;exact⟨⟨hc,hl,hu⟩,.inl (by decide:(1:Int)<3)⟩,.refl⟩
 ·exact⟨_,Qci,fun q hq=>by cases hq;exact⟨⟨hc,hl,hu⟩,.inl (by decide:(2:Int)<3)⟩,.refl⟩
 ·exact⟨_,QtJ,fun q hq=>by cases hq;rfl,.refl⟩
 ·exact⟨_,Qci,fun q hq=>by cases hq;exact⟨⟨hc,hl,hu⟩,.inr (.inl rfl)⟩,.refl⟩
 ·exact⟨_,QtR,fun q hq=>by cases hq;rfl,.refl⟩
 ·exact⟨_,Qt5,fun q hq=>by cases hq;exact⟨rfl,hu⟩,.refl⟩
 ·exact⟨_,Qt1,fun q hq=>by cases hq;rfl,.refl⟩
 ·exact⟨_,Qth,fun q hq=>by cases hq;exact⟨rfl,hl⟩,.refl⟩
 ·refine⟨_,Qci,fun q hq=>by cases hq;exact⟨⟨hc,hl,hu⟩,kx3 hx⟩,?_⟩;have e:Qb8 (cn,ck,cb,cs,cd) (N,M)=100000:=by unfold Qb8;rw[Qaa hx]
  show Conv (I 100000,[]) (I (Qb8 (cn,ck,cb,cs,cd) (N,M)),[]);rw[e];exact .refl
theorem Qym{c:Cv}(d:Dv)(k:Int)(h:c.2.1≠4∧c.2.1≠5∧c.2.1≠8):Qc9 c d 0=Qmc c d k:=by
 obtain⟨cn,ck,cb,cs,cd⟩:=c;obtain⟨N,M⟩:=d;obtain⟨h4,h5,h8⟩:=h;rcases kinds ck with rfl|rfl|rfl|rfl|rfl|rfl|rfl|rfl|rfl|hx
 all_goals first
  |exact absurd rfl h4
  |exact absurd rfl h5
  |exact absurd rfl h8
  |rfl
  |(unfold Qc9 Qmc;rw[Qaa hx,Qaa hx])
def QJP:PSpec:=⟨[gC,gD,gi],fun(c,d,k,_)=>(some (cP c∧dP d),Qdv,[.arr (.int .i64) (Qmc c d k).1,.arr (.int .u8) (Qmc c d k).2])⟩
theorem QFk:G0 206 QJP.spec:=by
 have hP:S0 _:=Qa Qt8 (Qa QCu (Qa QqW (Qa Qkf (Qb (T:=tree)))));have hT:=tabs hP Qc;refine QJP.gd hT hP Tryz.func206 fun(c:Cv) (d:Dv) (k:Int) hp=>?_
 obtain⟨cn,ck,cb,cs,cd⟩:=c;obtain⟨N,M⟩:=d;obtain⟨hc,hl,hu⟩:cP (cn,ck,cb,cs,cd)∧dP (N,M):=hp _ rfl;clear hp;rcases kinds ck with rfl|rfl|rfl|rfl|rfl|rfl|rfl|rfl|rfl|hx
 all_goals
  repeat' first|(apply Ea;conv=>whnf)|apply Eb|apply Ec<;>intro _|apply Ed<;>intro _|apply Ee<;>intro _|apply Ef hT hP
  all_goals(try dsimp only[Qf] at *)
 all_goals first
  |exact⟨hc,⟨hl,hu⟩,by decide⟩
  |exact hl
  |exact .k [] [3,4] _ R R
  |(exfalso;omega)
  |exact .mk [] [3,4] _ R R R R R (Qcs (Qym (c:=(cn,ck,cb,cs,cd)) (N,M) k (kxg hx))) rfl
  |skip
def QFl:PSpec:=⟨[gC,gD],fun(c,d,_)=>(some (cP c∧dP d),.cell (bv (Qaz c d)),[])⟩
theorem QCG:G0 67 QFl.spec:=by
 have hP:S0 _:=Qa QCd (Qa QCf (Qa QBX (Qb (T:=tree))));have hT:=tabs hP Qc;refine QFl.gd hT hP Tryz.func67 fun(c:Cv) (d:Dv) hp=>?_
 obtain⟨cn,ck,cb,cs,cd⟩:=c;obtain⟨N,M⟩:=d;obtain⟨hc,hl,hu⟩:cP (cn,ck,cb,cs,cd)∧dP (N,M):=hp _ rfl;clear hp;rcases kinds ck with rfl|rfl|rfl|rfl|rfl|rfl|rfl|rfl|rfl|hx
 all_goals
  repeat' first|(apply Ea;conv=>whnf)|apply Eb|apply Ec<;>intro _|apply Ed<;>intro _|apply Ee<;>intro _|apply Ef hT hP
  all_goals(try dsimp only[Qf] at *)
 all_goals first
  |exact hl
  |exact .k [] [] _ R R
  |(exfalso;omega)
  |(refine .k [] [] _ rfl (Qi ?_);show false=Qaz (cn,ck,cb,cs,cd) (N,M);unfold Qaz;rw[Qaa hx])
  |skip
def QFm:PSpec:=⟨[gC,gD],fun(c,d,_)=>(some (cP c∧dP d),I (Qal c d),[])⟩
theorem Qux:G0 136 QFm.spec:=by
 have hP:S0 _:=Qa QB8 (Qa QCh (Qa QB4 (Qa QCl (Qa QBZ (Qb (T:=tree))))));have hT:=tabs hP Qc;refine QFm.gd hT hP Tryz.func136 fun(c:Cv) (d:Dv) hp=>?_
 obtain⟨cn,ck,cb,cs,cd⟩:=c;obtain⟨N,M⟩:=d;obtain⟨hc,hl,hu⟩:cP (cn,ck,cb,cs,cd)∧dP (N,M):=hp _ rfl;clear hp;rcases kinds ck with rfl|rfl|rfl|rfl|rfl|rfl|rfl|rfl|rfl|hx
 all_goals
  repeat' first|(apply Ea;conv=>whnf)|apply Eb|apply Ec<;>intro _|apply Ed<;>intro _|apply Ee<;>intro _|apply Ef hT hP
  all_goals(try dsimp only[Qf] at *)
 all_goals first
  |exact hl
  |exact hu
  |exact .k [] [] _ R R
  |(exfalso;omega)
  |(refine .k [] [] _ rfl (Qd ?_);show 0=Qal (cn,ck,cb,cs,cd) (N,M);unfold Qal;rw[Qaa hx])
  |skip
def QAE:PSpec:=⟨[gC,gD],fun(c,d,_)=>(some (cP c∧dP d),I (Qb8 c d),[])⟩
theorem Qyn:G0 82 QAE.spec:=by
 have hP:S0 _:=Qa QxJ (Qa QxM (Qa QxB (Qa QxO (Qa Qxv (Qb (T:=tree))))));have hT:=tabs hP Qc;refine QAE.gd hT hP Tryz.func82 fun(c:Cv) (d:Dv) hp=>?_
 obtain⟨cn,ck,cb,cs,cd⟩:=c;obtain⟨N,M⟩:=d;obtain⟨hc,hl,hu⟩:cP (cn,ck,cb,cs,cd)∧dP (N,M):=hp _ rfl;clear hp;rcases kinds ck with rfl|rfl|rfl|rfl|rfl|rfl|rfl|rfl|rfl|hx
 all_goals
  repeat' first|(apply Ea;conv=>whnf)|apply Eb|apply Ec<;>intro _|apply Ed<;>intro _|apply Ee<;>intro _|apply Ef hT hP
  all_goals(try dsimp only[Qf] at *)
 all_goals first
  |exact hl
  |exact hu
  |exact .k [] [] _ R R
  |(exfalso;omega)
  |(refine .k [] [] _ rfl (Qd ?_);show 100000=Qb8 (cn,ck,cb,cs,cd) (N,M);unfold Qb8;rw[Qaa hx])
  |skip
theorem QCM(m:List Int)(a k:Int):(vwM m a k).length=m.length:=by
 unfold vwM;split
 ·simp
 ·rfl
theorem QuI(c:Cv):QbD c≤(List.length c.2.2.2.2:Nat)+70000:=by
 unfold QbD;split
 ·have hw:=QcP c;unfold Qao;rcases Int.le_total (((List.length c.2.2.2.2:Nat)+Qba c-1)/Qba c) 1 with h|h
  ·rw[Int.max_eq_left h];omega
  ·rw[Int.max_eq_right h];have:=Int.ediv_mul_le ((List.length c.2.2.2.2:Nat)+Qba c-1) (b:=Qba c) (by omega);omega
 ·omega
def Q0(l:List Int):Prop:=(∀n∈l,Qam n)∧l.length≤12
structure GoodD(c:Cv)(L:Nat)(d:Dv):Prop where
 n:Q0 d.1
 u:u8s d.2
 l:List.length d.2≤max (List.length c.2.2.2.2+70000) L
theorem Q0.of{l:List Int}(h:∀n∈l,-1048576≤n∧n≤1048576)(h2:l.length≤12):Q0 l:=⟨fun n hn=>by have:=h n hn;unfold Qam;omega,h2⟩
theorem Qgm{α:Type}{P:α→Prop}(k:Int){m t p s v o r x:α}(hm:P m)(ht:P t)(hp:P p)(hs:P s)(hv:P v)(ho:P o)(hr:P r)(hx:P x):P (sel k m t p s v o r x):=by
 unfold sel
 repeat' split
 all_goals assumption
theorem QD7:Q0 []:=⟨fun n hn=>(by cases hn),by decide⟩
theorem QpM{c:Cv}(hc:cP c)(N:List Int):Q0 (memN c N):=by
 obtain⟨b1,b2,b3⟩:=Qa7 hc.2.2;unfold memN;split
 ·refine⟨fun n hn=>?_,by simp⟩;rw[List.mem_singleton] at hn;subst hn;have:=Int.emod_nonneg (N.getD 0 0) (b:=Qao c) (by omega);have:=Int.emod_lt_of_pos (N.getD 0 0) (b:=Qao c) (by omega);unfold Qam;omega
 ·exact QD7
theorem QfM{c:Cv}(hc:cP c){d:Dv}(hu:u8s d.2){L:Nat}:GoodD c L (memN c d.1,QaT c d.2):=by
 refine⟨QpM hc d.1,Qh2 c hu,?_⟩;show(QaT c d.2).length≤_;rw[Qkb];have:=QuI c;omega
theorem QM{c:Cv}{L:Nat}{l:List Int}(h:Q0 l):GoodD c L (l,[]):=⟨h,fun x hx=>(by cases hx),Nat.zero_le _⟩
theorem Q0.set{l:List Int}(h:Q0 l){v:Int}(hv:Qam v)(i:Nat):Q0 (l.set i v):=by
 refine⟨fun n hn=>?_,by rw[List.length_set];exact h.2⟩;rcases List.mem_or_eq_of_mem_set hn with hn|rfl
 ·exact h.1 n hn
 ·exact hv
theorem QuJ{l m:List Int}(h:Q0 l)(h2:Q0 m)(h3:l.length+m.length≤12):Q0 (l++m) :=
 ⟨fun n hn=>(List.mem_append.1 hn).elim (h.1 n) (h2.1 n),by rw[List.length_append];exact h3⟩
theorem QuK(N:List Int):Q0 (Qbf N):=by
 unfold Qbf;refine Q0.of (fun n hn=>?_) (by simp);simp only[List.mem_cons,List.not_mem_nil,or_false] at hn;rcases hn with rfl|rfl|rfl|rfl<;>omega
theorem QuL(N:List Int):Q0 (QaE (Qbf N)):=by
 unfold Qbf QaE;dsimp only
 repeat' split
 all_goals
  refine Q0.of (fun n hn=>?_) (by simp);simp only[List.mem_cons,List.not_mem_nil,or_false] at hn;rcases hn with rfl|rfl|rfl|rfl<;>omega
theorem QFu(N:List Int)(a:Int):Q0 (trN N a):=by
 unfold trN;refine Q0.of (fun n hn=>?_) (by simp);simp only[List.mem_cons,List.not_mem_nil,or_false] at hn;dsimp only[tA,tB,tC,tF] at hn;rcases hn with rfl|rfl|rfl|rfl<;>(try split)<;>omega
theorem QFv(N:List Int)(a k:Int):Q0 (twN N a k):=by
 unfold twN;refine Q0.of (fun n hn=>?_) (by simp);simp only[List.mem_cons,List.not_mem_nil,or_false] at hn;dsimp only[tA,tB,tC,tF] at hn;rcases hn with rfl|rfl|rfl|rfl<;>(repeat' split)<;>omega
theorem Qkp(N:List Int):Q0 (Qax N):=by
 unfold Qax;refine Q0.of (fun n hn=>?_) (by simp);simp only[List.mem_cons,List.not_mem_nil,or_false] at hn;rcases hn with rfl|rfl|rfl<;>omega
theorem QCN(N:List Int)(k:Int):Q0 (QxC N k):=by
 unfold QxC;refine Q0.of (fun n hn=>?_) (by simp);simp only[List.mem_cons,List.not_mem_nil,or_false] at hn;rcases hn with rfl|rfl|rfl<;>omega
theorem QFw(N:List Int)(a k:Int):Q0 (pwN N a k):=by
 unfold pwN;refine Q0.of (fun n hn=>?_) (by simp);simp only[List.mem_cons,List.not_mem_nil,or_false] at hn;rcases hn with rfl|rfl|rfl<;>(try split)<;>omega
theorem QCO(N:List Int):Q0 (Qa9 N):=by
 unfold Qa9;refine Q0.of (fun n hn=>?_) (by simp);simp only[List.mem_cons,List.not_mem_nil,or_false] at hn;dsimp only[s0,s1,s2,s3,s4,s5,s6,s7] at hn;rcases hn with rfl|rfl|rfl|rfl|rfl|rfl|rfl|rfl<;>omega
theorem QuM(N:List Int):Q0 (Qab (Qa9 N)):=by
 unfold Qa9 Qab;dsimp only
 repeat' split
 all_goals
  refine Q0.of (fun n hn=>?_) (by simp);simp only[List.mem_cons,List.not_mem_nil,or_false] at hn;dsimp only[s0,s1,s2,s3,s4,s5,s6,s7] at *;rcases hn with rfl|rfl|rfl|rfl|rfl|rfl|rfl|rfl<;>omega
theorem QCP(N:List Int)(k:Int):Q0 (QlD N k):=by
 unfold QlD;refine Q0.of (fun n hn=>?_) (by simp);simp only[List.mem_cons,List.not_mem_nil,or_false] at hn;dsimp only[s0,s1,s2,s3,s4,s5,s6,s7] at hn;rcases hn with rfl|rfl|rfl|rfl|rfl|rfl|rfl|rfl<;>(try split)<;>omega
theorem QFx(N:List Int)(a k:Int):Q0 (swN N a k):=by
 unfold swN;refine Q0.of (fun n hn=>?_) (by simp);simp only[List.mem_cons,List.not_mem_nil,or_false] at hn;dsimp only[s0,s1,s2,s3,s4,s5,s6,s7] at hn;rcases hn with rfl|rfl|rfl|rfl|rfl|rfl|rfl|rfl<;>(try split)<;>omega
theorem QFy(N:List Int)(a:Int):Q0 (srN N a):=by
 unfold srN;refine Q0.of (fun n hn=>?_) (by simp);simp only[List.mem_cons,List.not_mem_nil,or_false] at hn;dsimp only[s0,s1,s2,s3,s4,s5,s6,s7] at hn;rcases hn with rfl|rfl|rfl|rfl|rfl|rfl|rfl|rfl<;>(try split)<;>omega
theorem Qkq{l:List Int}(h:vOk l):Q0 l∧l.length=6:=by
 cases h with
 |mk h1 h2 h3 h4 h5 h6 =>
  refine⟨Q0.of (fun n hn=>?_) (by simp),rfl⟩;simp only[List.mem_cons,List.not_mem_nil,or_false] at hn;rcases hn with rfl|rfl|rfl|rfl|rfl|rfl<;>omega
theorem Qkr(N:List Int):Q0 (Qah N):=by
 have h1:=Qkq (Qaf N 0);have h2:=Qkq (Qaf N 6);exact QuJ h1.1 h2.1 (by omega)
theorem QuN(N:List Int):Q0 (QaO (Qah N)):=by
 have e1:(Qah N).take 6=vo N 0:=rfl;have e2:(Qah N).drop 6=vo N 6:=rfl;unfold QaO;rw[e1,e2];have h1:=Qkq (QbO (Qaf N 0) (k:=1) (by omega));have h2:=Qkq (QbO (Qaf N 6) (k:=1) (by omega));exact QuJ h1.1 h2.1 (by omega)
theorem QFz(N:List Int)(a k:Int):Q0 (owF N a k):=by
 have h:=Qkr N;have hv:∀v:Int,-1048576≤v∧v≤1048576→Qam v:=fun v hv=>by unfold Qam;omega
 unfold owF
 repeat' split
 all_goals first
  |exact h
  |exact(h.set (hv _ (by omega)) _)
  |exact((h.set (hv _ (by omega)) _).set (hv _ (by omega)) _)
theorem QnC(N:List Int):Q0 (vN N):=by
 have:=Qc4 N;unfold vN;refine Q0.of (fun n hn=>?_) (by simp);simp only[List.mem_cons,List.not_mem_nil,or_false] at hn;rcases hn with rfl|rfl
 ·omega
 ·dsimp only[vH];omega
theorem QuO(m N:List Int):Q0 (QaS m (vN N)):=by
 have:=Qc4 N;unfold vN QaS;dsimp only;refine Q0.of (fun n hn=>?_) (by simp);simp only[List.mem_cons,List.not_mem_nil,or_false] at hn;dsimp only[vH] at *;rcases hn with rfl|rfl<;>(try split)<;>omega
theorem QFA(N:List Int)(a:Int):Q0 (vrN N a):=by
 have:=Qc4 N;unfold vrN;refine Q0.of (fun n hn=>?_) (by simp);simp only[List.mem_cons,List.not_mem_nil,or_false] at hn;dsimp only[vH] at *;rcases hn with rfl|rfl<;>(try split)<;>omega
theorem Qks{q:Nat}{l:List Int}(h:dOk q l):Q0 l:=by
 cases h with
 |mk hk ht hc hs hi hl hd hr ho hx =>
  refine Q0.of (fun n hn=>?_) (by simp);simp only[List.mem_cons,List.not_mem_nil,or_false] at hn;rcases hn with rfl|rfl|rfl|rfl|rfl|rfl|rfl|rfl|rfl|rfl<;>omega
theorem QFB(N:List Int)(q:Nat)(a k:Int):Q0 (dwN N q a k):=by
 have h:=Qks (Qs5 N q);have hv:∀v:Int,-1048576≤v∧v≤1048576→Qam v:=fun v hv=>by unfold Qam;omega
 unfold dwN Q7 QbV;generalize dN N q=n at *;have hb:=Qj5 (decide (k%256%16=4))
 repeat' split
 all_goals first
  |exact h
  |exact h.set (hv _ (by omega)) _
  |exact(h.set (hv _ (by omega)) _).set (hv _ (by omega)) _
  |exact((((h.set (hv _ (by omega)) _).set (hv _ (by omega)) _).set (hv _ (by omega)) _).set (hv _ (by omega)) _).set (hv _ (by omega)) _
theorem QFC(N:List Int)(q:Nat)(k:Int):Q0 (dcN N q k):=by
 unfold dcN;split
 ·refine Q0.of (fun n hn=>?_) (by simp);simp only[List.mem_cons,List.not_mem_nil,or_false] at hn;dsimp only[e1,e2,e3,e4,e5,e6,e7,e8,e9] at *;rcases hn with rfl|rfl|rfl|rfl|rfl|rfl|rfl|rfl|rfl|rfl<;>(try split)<;>omega
 ·exact Qks (Qs5 N q)
theorem QFD(N:List Int)(q:Nat)(a:Int):Q0 (drN N q a):=by
 unfold drN;refine Q0.of (fun n hn=>?_) (by simp);simp only[List.mem_cons,List.not_mem_nil,or_false] at hn;dsimp only[e0,e1,e2,e3,e4,e5,e6,e7,e8,e9] at *;rcases hn with rfl|rfl|rfl|rfl|rfl|rfl|rfl|rfl|rfl|rfl<;>(try split)<;>omega
theorem Qg2{c:Cv}{L:Nat}{N M:List Int}(h:Q0 N)(hu:u8s M)(hl:M.length≤L):GoodD c L (N,dM M):=by
 refine⟨h,Qj8 hu _,?_⟩;show(M.take _).length≤_;rw[List.length_take];omega
theorem QfN{c:Cv}{L:Nat}{N M:List Int}(h:Q0 N)(hu:u8s M)(hl:M.length≤32):GoodD c L (N,M):=⟨h,hu,by show M.length≤_;omega⟩
theorem QFE{m:List Int}(h:u8s m)(a k:Int):u8s (vwM m a k):=by
 unfold vwM;split
 ·exact Qnh h (by omega) _
 ·exact h
theorem QuP{c:Cv}{L:Nat}{d:Dv}(hu:u8s d.2)(hl:List.length d.2≤L):GoodD c L (Qat (dN d.1 (qF d.2),dM d.2)):=by
 have h:=QoS (q:=qF d.2) (s:=(dN d.1 (qF d.2),dM d.2)) ⟨Qs5 _ _,QhI _,Qj8 hu _⟩;refine⟨Qks h.n,h.u,?_⟩;have:=h.m;have e:(Qat (dN d.1 (qF d.2),dM d.2)).2.length≤d.2.length:=by rw[this];unfold qF;omega
 exact Nat.le_trans (Nat.le_trans e hl) (Nat.le_max_right _ _)
structure OkD(L:Nat)(d:Dv):Prop where
 u:u8s d.2
 l:List.length d.2≤L
theorem Qh8{c:Cv}(hc:cP c){L:Nat}{d:Dv}(h:OkD L d):GoodD c L (Qh c d) :=
 Qgm _ (QfM hc h.u) (QM (QuL _)) (QM (Qkp _)) (QM (QuM _)) (QfN (QuO _ _) (Qd1 h.u) (Nat.le_of_eq (QaN _))) (QM (QuN _)) (QuP h.u h.l) (QM QD7)
theorem QyC{c:Cv}(hc:cP c){L:Nat}{d:Dv}(h:OkD L d)(k:Int):GoodD c L (Qmc c d k) :=
 Qgm _ (QfM hc h.u) (QM (QuK _)) (QM (QCN _ _)) (QM (QCP _ _)) (QfN (QnC _) (Qd1 h.u) (Nat.le_of_eq (QaN _))) (QM (Qkr _)) (Qg2 (QFC _ _ _) h.u h.l) (QM QD7)
theorem Qme{c:Cv}(hc:cP c){L:Nat}{d:Dv}(h:OkD L d)(a:Int):GoodD c L (loadD c d a) :=
 Qgm _ (QfM hc h.u) (QM (QFu _ _)) (QM (Qkp _)) (QM (QFy _ _)) (QfN (QFA _ _) (Qd1 h.u) (Nat.le_of_eq (QaN _))) (QM (Qkr _)) (Qg2 (QFD _ _ _) h.u h.l) (QM QD7)
theorem Qrt{c:Cv}(hc:cP c){L:Nat}{d:Dv}(hu:u8s d.2)(a k:Int):GoodD c L (QaY c d a k):=by
 have h0:=QfM hc (d:=d) (L:=L) hu;obtain⟨b1,b2,b3⟩:=Qa7 hc.2.2;unfold QaY;split
 ·exact h0
 ·split
  ·refine⟨h0.n,Qnh h0.u (by omega) _,?_⟩;show(List.set _ _ _).length≤_;rw[List.length_set];exact h0.l
  ·split
   ·refine⟨h0.n.set ?_ _,h0.u,h0.l⟩;have:=Int.emod_nonneg (k%256) (b:=Qao c) (by omega);have:=Int.emod_lt_of_pos (k%256) (b:=Qao c) (by omega);unfold Qam;omega
   ·exact h0
theorem Qjk{c:Cv}(hc:cP c){L:Nat}{d:Dv}(h:OkD L d)(a k:Int):GoodD c L (Qbb c d a k) :=
 Qgm _ (Qrt hc h.u a k) (QM (QFv _ _ _)) (QM (QFw _ _ _)) (QM (QFx _ _ _)) (QfN (QnC _) (QFE (Qd1 h.u) _ _) (Nat.le_of_eq ((QCM _ _ _).trans (QaN _)))) (QM (QFz _ _ _)) (Qg2 (QFB _ _ _ _) h.u h.l) (QM QD7)
abbrev Qe:Ty:=.pair .str (.pair (.int .i64) (.pair (.int .i64) (.pair (.int .i64) (.sl (.int .u8)))))
abbrev Qr:Ty:=.pair .str .str
abbrev Wr:=ByteArray×ByteArray
abbrev QFF:Ty:=.pair .str (.pair QCz (.pair (.sl Qe) (.sl Qr)))
abbrev gBd:Sig:=⟨true,QFF⟩
abbrev Bd:=ByteArray×Cpu×List Cv×List Wr
def QdH{α:Type}(p:α→Bool):List α→Nat→Int
 | [],_=>-1
 |x::r,k=>if p x=true then (k:Int) else QdH p r (k+1)
def QbP{α:Type}(p:α→Bool)(l:List α):Int:=QdH p l 0
theorem QFG{α:Type}{l:List α}{k:Nat}(d:α)(h:k<l.length):l.drop k=l.getD k d::l.drop (k+1):=by
 rw[List.drop_eq_getElem_cons h,List.getD_eq_getElem?_getD,List.getElem?_eq_getElem h];rfl
theorem Qkt{α:Type}{p:α→Bool}:∀{l:List α} {k:Nat},QdH p l k=-1∨((k:Int)≤QdH p l k∧QdH p l k<k+l.length)
 | [],k=>.inl rfl
 |x::r,k=>by
  unfold QdH;by_cases h:p x=true
  ·rw[if_pos h];right;simp only[List.length_cons];omega
  ·rw[if_neg h];rcases Qkt (p:=p) (l:=r) (k:=k+1) with h1|h1
   ·exact .inl h1
   ·right;simp only[List.length_cons];omega
theorem Qku{α:Type}(p:α→Bool)(l:List α):QbP p l=-1∨(0≤QbP p l∧QbP p l<l.length):=by
 have:=Qkt (p:=p) (l:=l) (k:=0);unfold QbP;simpa using this
theorem Qdz{α:Type}{p:α→Bool}{l:List α}{k:Nat}(d:α)(h:k<l.length)(hp:p (l.getD k d)=true){r:Int}(hi:QdH p (l.drop k) k=r):(k:Int)=r:=by
 rw[QFG d h,QdH,if_pos hp] at hi;exact hi
theorem Qbq{α:Type}{p:α→Bool}{l:List α}{k:Nat}(d:α)(h:k<l.length)(hp:¬p (l.getD k d)=true){r:Int}(hi:QdH p (l.drop k) k=r):QdH p (l.drop (k+1)) (k+1)=r:=by
 rw[QFG d h,QdH,if_neg hp] at hi;exact hi
theorem QcJ{α:Type}{p:α→Bool}{l:List α}{k:Nat}(h:¬k<l.length){r:Int}(hi:QdH p (l.drop k) k=r):-1=r:=by
 rw[List.drop_of_length_le (by omega)] at hi;exact hi
theorem QuS{α:Type}{p:α→Bool}(d:α):∀{l:List α} {k:Nat},0≤QdH p l k→p (l.getD (QdH p l k-k).toNat d)=true
 | [],k,h=>by simp[QdH] at h
 |x::r,k,h=>by
  unfold QdH at h ⊢;by_cases hx:p x=true
  ·rw[if_pos hx];have:((k:Int)-k).toNat=0:=by omega
   rw[this];exact hx
  ·rw[if_neg hx] at h ⊢;have h2:=QuS (p:=p) d (l:=r) (k:=k+1) h;have h3:=Qkt (p:=p) (l:=r) (k:=k+1);have:(QdH p r (k+1)-k).toNat=(QdH p r (k+1)-((k+1:Nat):Int)).toNat+1:=by omega
   rw[this];exact h2
theorem QyF{α:Type}{p:α→Bool}(d:α){l:List α}(h:0≤QbP p l):p (l.getD (QbP p l).toNat d)=true:=by
 have:=QuS (p:=p) d (l:=l) (k:=0) h;have e:(QdH p l 0-((0:Nat):Int)).toNat=(QbP p l).toNat:=by unfold QbP;omega
 rw[e] at this;exact this
def Qgn(a:Int)(c:Cv):Bool:=decide (c.2.2.1≤a)&&(decide (0<c.2.2.2.1)&&decide (a-c.2.2.1<c.2.2.2.1))
def Qn(b:Bd)(a:Int):Int:=QbP (Qgn a) b.2.2.1
def atF(b:Bd)(a:Int):Int:=if 0≤Qn b a then a-(b.2.2.1.getD (Qn b a).toNat (dflt Qe)).2.2.1 else 0
def cI(c:Cv):Prop:=i6Q c.2.2.1∧i6Q c.2.2.2.1
def bP(b:Bd)(a:Int):Prop:=b.2.2.1.length≤4611686018427387904∧i6Q a∧∀c∈b.2.2.1,cI c
theorem QG{α:Type}{l:List α}{k:Nat}(d:α)(h:k<l.length):l.getD k d∈l:=by
 rw[List.getD_eq_getElem?_getD,List.getElem?_eq_getElem h];exact List.getElem_mem h
theorem QHa(x:Int):IntKind.u64.wrap x=x%18446744073709551616:=rfl
theorem QFH{a b s:Int}(ha:i6Q a)(hb:i6Q b)(hs:i6Q s)(h1:a≥b)(h2:s>0):(IntKind.u64.wrap (IntKind.u64.wrap a-IntKind.u64.wrap b)<IntKind.u64.wrap s)↔a-b<s:=by
 unfold i6Q at ha hb hs;rw[QHa,QHa,QHa,QHa];omega
theorem QJR{x x' y y':Int}{b b':Bool}(h1:x=x')(h2:y=y')(h3:b=b'):AV.tup [I1 x,I1 y,.c (bv b)]=AV.tup [I1 x',I1 y',.c (bv b')]:=by rw[h1,h2,h3]
def QAH:PSpec:=⟨[gBd,gi],fun(b,a,_)=>(some (bP b a),.tup [I1 (if 0≤Qn b a then Qn b a else 0),I1 (atF b a),.c (bv (decide (0≤Qn b a)))],[])⟩
theorem QyG:G0 93 QAH.spec:=by
 have hP:S0 _:=(Qb (T:=tree))
 have hT:=tabs hP Qc;refine QAH.gd hT hP Tryz.func93 fun(b:Bd) (a:Int) hq=>?_
 obtain⟨hl,ha,hc⟩:bP b a:=hq _ rfl;obtain⟨bn,bu,bc,bw⟩:=b;have hl:bc.length≤4611686018427387904:=hl;have hc:∀c∈bc,cI c:=hc;clear hq
 repeat' first|(apply Ea;conv=>whnf)|apply Eb|apply Ec<;>intro _|apply Ed<;>intro _|apply Ee<;>intro _|apply Ef hT hP
 refine QH hT hP (A:=Unit) bc.length (fun i _=>St.mk (E1 ((I a)::E5 (E3 ((.cell (.ro Qe bc))::(I bc.length)::(I i)::E20 (E10 (E1 [])))))) [])
  (fun k _=>QdH (Qgn a) (bc.drop k) k=QbP (Qgn a) bc) () (Le.mk [] [] R R R ?_) rfl fun k _ hk hi=>?_
 ·repeat' constructor
 repeat' first|(apply Ea;conv=>whnf)|apply Eb|apply Ec<;>intro _|apply Ed<;>intro _|apply Ee<;>intro _|apply Ef hT hP
 all_goals(try dsimp only[Qf] at *)
 all_goals clear hT hP
 ·rename_i g1;have g1:(k:Int)<(bc.length:Int):=g1;show 0≤(k:Int)∧(k:Int)<(bc.length:Int);omega
 ·rename_i g1 g2 g3 g4;have g1:(k:Int)<(bc.length:Int):=g1;have hlt:k<bc.length:=by omega
  have hm:=hc _ (QG (dflt Qe) hlt);have g2:a≥(bc.getD k (dflt Qe)).2.2.1:=g2;have g3:(bc.getD k (dflt Qe)).2.2.2.1>0:=g3;have g4:=(QFH ha hm.1 hm.2 g2 g3).1 g4
  have hp:Qgn a (bc.getD k (dflt Qe))=true:=by
   unfold Qgn;rw[decide_eq_true g2,decide_eq_true g3,decide_eq_true g4];rfl
  have e:=Qdz (dflt Qe) hlt hp hi;have e1:Qn (bn,bu,bc,bw) a=(k:Int):=e.symm;refine .k [] [] _ rfl (QJR ?_ ?_ ?_)
  ·show(k:Int)=if 0≤Qn (bn,bu,bc,bw) a then Qn (bn,bu,bc,bw) a else 0
   rw[e1,if_pos (by omega)]
  ·show IntKind.i64.wrap (a-(bc.getD k (dflt Qe)).2.2.1)=atF (bn,bu,bc,bw) a;unfold atF;rw[e1,if_pos (by omega)];show _=a-(bc.getD k (dflt Qe)).2.2.1;have h1:=ha.2;have h2:=hm.1.1;have h3:=hm.2.2;unfold i6Q at *;exact w64 (by omega) (by omega)
  ·show true=decide (0≤Qn (bn,bu,bc,bw) a);rw[e1];exact(decide_eq_true (by omega)).symm
 ·rename_i g1 g2 g3 g4;have g1:(k:Int)<(bc.length:Int):=g1;have hlt:k<bc.length:=by omega
  have hm:=hc _ (QG (dflt Qe) hlt);have g2:a≥(bc.getD k (dflt Qe)).2.2.1:=g2;have g3:(bc.getD k (dflt Qe)).2.2.2.1>0:=g3;have g4:=fun z=>g4 ((QFH ha hm.1 hm.2 g2 g3).2 z)
  have hp:¬Qgn a (bc.getD k (dflt Qe))=true:=by
   unfold Qgn;rw[decide_eq_false g4];simp
  apply Ex () [] []
  ·repeat' constructor
  ·omega
  ·exact QL (by omega)
  exact Qbq (dflt Qe) hlt hp hi
 ·rename_i g1 g2 g3;have g1:(k:Int)<(bc.length:Int):=g1;have hlt:k<bc.length:=by omega
  have g3:¬(bc.getD k (dflt Qe)).2.2.2.1>0:=g3
  have hp:¬Qgn a (bc.getD k (dflt Qe))=true:=by
   unfold Qgn;rw[decide_eq_false g3];simp
  apply Ex () [] []
  ·repeat' constructor
  ·omega
  ·exact QL (by omega)
  exact Qbq (dflt Qe) hlt hp hi
 ·rename_i g1 g2;have g1:(k:Int)<(bc.length:Int):=g1;have hlt:k<bc.length:=by omega
  have g2:¬a≥(bc.getD k (dflt Qe)).2.2.1:=g2
  have hp:¬Qgn a (bc.getD k (dflt Qe))=true:=by
   unfold Qgn;rw[decide_eq_false g2];simp
  apply Ex () [] []
  ·repeat' constructor
  ·omega
  ·exact QL (by omega)
  exact Qbq (dflt Qe) hlt hp hi
 ·rename_i g1;have g1:¬(k:Int)<(bc.length:Int):=g1;have e:=QcJ (by omega) hi;have e1:Qn (bn,bu,bc,bw) a=-1:=e.symm;refine .k [] [] _ rfl (QJR ?_ ?_ ?_)
  ·show 0=if 0≤Qn (bn,bu,bc,bw) a then Qn (bn,bu,bc,bw) a else 0
   rw[e1];rfl
  ·show 0=atF (bn,bu,bc,bw) a;unfold atF;rw[e1];rfl
  ·show false=decide (0≤Qn (bn,bu,bc,bw) a);rw[e1];rfl
theorem Qkv{a b s:Int}(ha:i6Q a)(hb:i6Q b)(hs:i6Q s)(h1:a≥b)(h2:s>0):(a≤IntKind.i64.wrap (IntKind.i64.wrap (b+s)-1)∨IntKind.i64.wrap (IntKind.i64.wrap (b+s)-1)<b)↔a-b<s:=by
 unfold i6Q at ha hb hs;rw[IntKind.wrap_i64,IntKind.wrap_i64];omega
def QuT:PSpec:=⟨[gBd,gi],fun(b,a,_)=>(some (bP b a),I (Qn b a),[])⟩
theorem QuU:G0 75 QuT.spec:=by
 have hP:S0 _:=(Qb (T:=tree))
 have hT:=tabs hP Qc;refine QuT.gd hT hP Tryz.func75 fun(b:Bd) (a:Int) hq=>?_
 obtain⟨hl,ha,hc⟩:bP b a:=hq _ rfl;obtain⟨bn,bu,bc,bw⟩:=b;have hl:bc.length≤4611686018427387904:=hl;have hc:∀c∈bc,cI c:=hc;clear hq
 repeat' first|(apply Ea;conv=>whnf)|apply Eb|apply Ec<;>intro _|apply Ed<;>intro _|apply Ee<;>intro _|apply Ef hT hP
 refine QH hT hP (A:=Unit) bc.length (fun i _=>St.mk (E1 ((I a)::E5 (E2 ((.cell (.ro Qe bc))::(I bc.length)::(I i)::E20 (E10 (E2 [])))))) [])
  (fun k _=>QdH (Qgn a) (bc.drop k) k=QbP (Qgn a) bc) () (Le.mk [] [] R R R ?_) rfl fun k _ hk hi=>?_
 ·repeat' constructor
 repeat' first|(apply Ea;conv=>whnf)|apply Eb|apply Ec<;>intro _|apply Ed<;>intro _|apply Ee<;>intro _|apply Ef hT hP
 all_goals(try dsimp only[Qf] at *)
 all_goals clear hT hP
 ·rename_i g1;have g1:(k:Int)<(bc.length:Int):=g1;show 0≤(k:Int)∧(k:Int)<(bc.length:Int);omega
 ·rename_i g1 g2 g3 g4;have g1:(k:Int)<(bc.length:Int):=g1;have hlt:k<bc.length:=by omega
  have hm:=hc _ (QG (dflt Qe) hlt);have g2:(bc.getD k (dflt Qe)).2.2.2.1>0:=g2;have g3:(bc.getD k (dflt Qe)).2.2.1≤a:=g3;have g4:=(Qkv ha hm.1 hm.2 g3 g2).1 (.inl g4)
  have hp:Qgn a (bc.getD k (dflt Qe))=true:=by
   unfold Qgn;rw[decide_eq_true g3,decide_eq_true g2,decide_eq_true g4];rfl
  exact .k [] [] _ rfl (Qd (Qdz (dflt Qe) hlt hp hi))
 ·rename_i g1 g2 g3 g4 g5;have g1:(k:Int)<(bc.length:Int):=g1;have hlt:k<bc.length:=by omega
  have hm:=hc _ (QG (dflt Qe) hlt);have g2:(bc.getD k (dflt Qe)).2.2.2.1>0:=g2;have g3:(bc.getD k (dflt Qe)).2.2.1≤a:=g3;have g4:=(Qkv ha hm.1 hm.2 g3 g2).1 (.inr g5)
  have hp:Qgn a (bc.getD k (dflt Qe))=true:=by
   unfold Qgn;rw[decide_eq_true g3,decide_eq_true g2,decide_eq_true g4];rfl
  exact .k [] [] _ rfl (Qd (Qdz (dflt Qe) hlt hp hi))
 ·rename_i g1 g2 g3 g4 g5;have g1:(k:Int)<(bc.length:Int):=g1;have hlt:k<bc.length:=by omega
  have hm:=hc _ (QG (dflt Qe) hlt);have g2:(bc.getD k (dflt Qe)).2.2.2.1>0:=g2;have g3:(bc.getD k (dflt Qe)).2.2.1≤a:=g3;have g6:=fun z=>((Qkv ha hm.1 hm.2 g3 g2).2 z).elim g4 g5
  have hp:¬Qgn a (bc.getD k (dflt Qe))=true:=by
   unfold Qgn;rw[decide_eq_false g6];simp
  apply Ex () [] []
  ·repeat' constructor
  ·omega
  ·exact QL (by omega)
  exact Qbq (dflt Qe) hlt hp hi
 ·rename_i g1 g2 g3;have g1:(k:Int)<(bc.length:Int):=g1;have hlt:k<bc.length:=by omega
  have hm:=hc _ (QG (dflt Qe) hlt);have g3:¬(bc.getD k (dflt Qe)).2.2.1≤a:=g3
  have hp:¬Qgn a (bc.getD k (dflt Qe))=true:=by
   unfold Qgn;rw[decide_eq_false g3];simp
  apply Ex () [] []
  ·repeat' constructor
  ·omega
  ·exact QL (by omega)
  exact Qbq (dflt Qe) hlt hp hi
 ·rename_i g1 g2;have g1:(k:Int)<(bc.length:Int):=g1;have hlt:k<bc.length:=by omega
  have hm:=hc _ (QG (dflt Qe) hlt);have g2:¬(bc.getD k (dflt Qe)).2.2.2.1>0:=g2
  have hp:¬Qgn a (bc.getD k (dflt Qe))=true:=by
   unfold Qgn;rw[decide_eq_false g2];simp
  apply Ex () [] []
  ·repeat' constructor
  ·omega
  ·exact QL (by omega)
  exact Qbq (dflt Qe) hlt hp hi
 ·rename_i g1;have g1:¬(k:Int)<(bc.length:Int):=g1;exact .k [] [] _ rfl (Qd (QcJ (by omega) hi))
def Qh9(k:Int):Bool:=decide (k=3)||(decide (k=5)||decide (k=8))
def QyH:PSpec:=⟨[gi],fun(k,_)=>(none,.cell (bv (Qh9 k)),[])⟩
theorem QpQ:G0 122 QyH.spec:=by
 have hP:S0 _:=(Qb (T:=tree))
 have hT:=tabs hP Qc;refine QyH.gd hT hP Tryz.func122 fun(k:Int) _=>?_
 repeat' first|(apply Ea;conv=>whnf)|apply Eb|apply Ec<;>intro _|apply Ed<;>intro _|apply Ee<;>intro _|apply Ef hT hP
 all_goals(refine .k [] [] _ rfl (Qi ?_))
 all_goals(show _=(decide (k=3)||(decide (k=5)||decide (k=8))))
 all_goals clear hT hP
 all_goals(dsimp only[gi,Den] at *)
 all_goals(simp_all)
 all_goals(by_cases h:k=8<;>simp[h])
theorem QeL:G0 56 QyH.spec:=by
 have hP:S0 _:=Qa QnE (Qb (T:=tree));have hT:=tabs hP Qc;refine QyH.gd hT hP Tryz.func56 fun(k:Int) _=>?_
 repeat' first|(apply Ea;conv=>whnf)|apply Eb|apply Ec<;>intro _|apply Ed<;>intro _|apply Ee<;>intro _|apply Ef hT hP
 all_goals first
  |exact of_decide_eq_true rfl
  |skip
 refine .k [] [] _ rfl (Qi ?_);show([3,5,8].any fun a=>decide (k=a))=_;simp only[List.any_cons,List.any_nil,Bool.or_false];rfl
end Go.Proofs.YtofgbclopbmlcaaGreat

