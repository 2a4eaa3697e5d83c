/- Part 19 of the proof. Conditions: none. -/
import Derived.Test.YtofgbclopbmlcaaGreatG18
import Derived.Test.YtofgbclopbmlcaaGreatG16
import Derived.Test.YtofgbclopbmlcaaGreatG17
namespace Go.Proofs.YtofgbclopbmlcaaGreat
open Go.IntKind (i64)
open Go.Fw
set_option linter.unusedVariables false
set_option linter.unusedSimpArgs false
set_option maxRecDepth 100000
abbrev e0(N:List Int)(q:Nat):Int:=if N.getD 0 0%256>q then 0 else N.getD 0 0%256
abbrev e1(N:List Int):Int:=N.getD 1 0%4
abbrev e2(N:List Int):Int:=if N.getD 2 0%8>4 then 0 else N.getD 2 0%8
abbrev e3(N:List Int):Int:=N.getD 3 0%4
abbrev e4(N:List Int):Int:=N.getD 4 0%16
abbrev e5(N:List Int):Int:=N.getD 5 0%64
abbrev e6(N:List Int):Int:=N.getD 6 0%256
abbrev e7(N:List Int):Int:=N.getD 7 0%2
abbrev e8(N:List Int):Int:=N.getD 8 0%2
abbrev e9(N:List Int):Int:=N.getD 9 0%2
theorem Qxq(N:List Int)(q:Nat):dN N q=[e0 N q,e1 N,e2 N,e3 N,e4 N,e5 N,e6 N,e7 N,e8 N,e9 N]:=rfl
theorem eR(N:List Int)(q:Nat):(0≤e0 N q∧e0 N q<256)∧(0≤e1 N∧e1 N<4)∧(0≤e2 N∧e2 N≤4)∧(0≤e3 N∧e3 N<4)∧(0≤e4 N∧e4 N<16)∧(0≤e5 N∧e5 N<64)∧(0≤e6 N∧e6 N<256)∧(0≤e7 N∧e7 N<2)∧(0≤e8 N∧e8 N<2)∧(0≤e9 N∧e9 N<2):=by
 unfold e0 e1 e2 e3 e4 e5 e6 e7 e8 e9;refine⟨?_,?_,?_,?_,?_,?_,?_,?_,?_,?_⟩
 ·split<;>omega
 ·omega
 ·split<;>omega
 all_goals omega
theorem QoU{m m':List Int}(h:m=m'):AV.agg [.own 0,.ro (.int .u8) m]=AV.agg [.own 0,.ro (.int .u8) m']:=by rw[h]
def Qta:PSpec:=⟨[gC,gD],fun(c,d,_)=>(some (c.2.1=8∧List.length d.2≤140737488355328),.agg [.own 0,.ro (.int .u8) (dM d.2)],[.arr (.int .i64) (dN d.1 (qF d.2))])⟩
def QqU:PSpec:=⟨[gC,gD],fun(c,d,_)=>(some (c.2.1=8∧List.length d.2≤140737488355328∧qF d.2=0),.agg [.own 0,.ro (.int .u8) []],[.arr (.int .i64) (dN d.1 (qF d.2))])⟩
theorem QlM:G0 58 QqU.spec :=
 QQ.map QhJ fun(c,d,_) hp=>⟨hp,rfl,fun E v h=>h.nil_ro⟩
def Qjb:PSpec:=⟨[gC,gD],fun(c,d,_)=>(some (c.2.1=8∧List.length d.2≤140737488355328∧0<qF d.2),.agg [.own 0,.ro (.int .u8) (dM d.2)],[.arr (.int .i64) (dN d.1 (qF d.2))])⟩
theorem QlN:G0 58 Qjb.spec:=by
 have hP:S0 _:=Qa QcO (Qb (T:=tree));have hT:=tabs hP Qc;refine Qjb.gd hT hP Tryz.func58 fun(c:Cv) (d:Dv) hp=>?_
 obtain⟨cn,ck,cb,cs,cd⟩:=c;obtain⟨N,M⟩:=d;obtain⟨rfl,hl,h0⟩:ck=8∧M.length≤140737488355328∧0<qF M:=hp _ rfl;have hq:=QlE M hl;have hq2:=Qnd M
 have hm:over (List.replicate (i64.wrap (i64.wrap (Int.tdiv (M.length:Int) 256)*256)).toNat 0) M 0=dM M:=by
  rw[hq];exact Qfy M hq2
 repeat' first|(apply Ea;conv=>whnf)|apply Eb|apply Ec<;>intro _|apply Ed<;>intro _|apply Ee<;>intro _|apply Ef hT hP
 all_goals first
  |exact Qj2
  |exact of_decide_eq_true rfl
  |skip
 all_goals first
  |(exfalso;rename_i h;have h:¬i64.wrap (i64.wrap (Int.tdiv (M.length:Int) 256)*256)>0:=h;rw[hq] at h;omega)
  |(have e:ty5.bytes=1:=rfl
    rw[e,show(List.length (N,M).2)=M.length from rfl,hq];omega)
  |(rename_i h1 h2 h
    have h1:i64.wrap (N.getD 0 0%256*256)>i64.wrap (i64.wrap (Int.tdiv (M.length:Int) 256)*256):=h1;have h2:N.getD 2 0%8>4:=h2;rw[hq,w64 (by omega) (by omega)] at h1;refine .mk [6] [5] _ R R R R R (Ql (l:=dL N 0 0) (l':=dN N (qF M)) ?_) (QoU hm)
    rw[QeF,if_pos (by omega),if_pos h2];rfl)
  |(rename_i h1 h2 h
    have h1:i64.wrap (N.getD 0 0%256*256)>i64.wrap (i64.wrap (Int.tdiv (M.length:Int) 256)*256):=h1;have h2:¬N.getD 2 0%8>4:=h2;rw[hq,w64 (by omega) (by omega)] at h1;refine .mk [6] [5] _ R R R R R (Ql (l:=dL N 0 (N.getD 2 0%8)) (l':=dN N (qF M)) ?_) (QoU hm)
    rw[QeF,if_pos (by omega),if_neg h2];rfl)
  |(rename_i h1 h2 h
    have h1:¬i64.wrap (N.getD 0 0%256*256)>i64.wrap (i64.wrap (Int.tdiv (M.length:Int) 256)*256):=h1;have h2:N.getD 2 0%8>4:=h2;rw[hq,w64 (by omega) (by omega)] at h1;refine .mk [6] [5] _ R R R R R (Ql (l:=dL N (N.getD 0 0%256) 0) (l':=dN N (qF M)) ?_) (QoU hm)
    rw[QeF,if_neg (by omega),if_pos h2];rfl)
  |(rename_i h1 h2 h
    have h1:¬i64.wrap (N.getD 0 0%256*256)>i64.wrap (i64.wrap (Int.tdiv (M.length:Int) 256)*256):=h1;have h2:¬N.getD 2 0%8>4:=h2;rw[hq,w64 (by omega) (by omega)] at h1;refine .mk [6] [5] _ R R R R R (Ql (l:=dL N (N.getD 0 0%256) (N.getD 2 0%8)) (l':=dN N (qF M)) ?_) (QoU hm)
    rw[QeF,if_neg (by omega),if_neg h2];rfl)
theorem Qe1:G0 58 Qta.spec:=by
 refine QQ.cases QlM QlN fun(c,d,_) hp=>?_
 obtain⟨hk,hl⟩:c.2.1=8∧List.length d.2≤140737488355328:=hp _ rfl;by_cases h:qF d.2=0
 ·left;refine⟨fun q hq=>?_,?_⟩
  ·injection hq with hq
   subst hq;exact⟨hk,hl,h⟩
  ·have:dM d.2=[]:=by unfold dM;rw[h];rfl
   show(AV.agg [.own 0,.ro (.int .u8) []],_)=(AV.agg [.own 0,.ro (.int .u8) (dM d.2)],_)
   rw[this]
 ·right;refine⟨fun q hq=>?_,rfl⟩;injection hq with hq
  subst hq;exact⟨hk,hl,Nat.pos_of_ne_zero h⟩
theorem Qxr(b:Bool)(f o:Int)(z:Bool)(h7:0≤f∧f<2)(h8:0≤o∧o<2):lor .i64 (lor .i64 (lor .i64 (QdL b) (shl .i64 f 1)) (shl .i64 o 2)) (8*QdL z)=QdL b+2*f+4*o+8*QdL z:=by
 have a1:f=0∨f=1:=by omega
 have a2:o=0∨o=1:=by omega
 rcases a1 with rfl|rfl<;>rcases a2 with rfl|rfl<;>cases b<;>cases z<;>decide +kernel
theorem Qj5(b:Bool):0≤QdL b∧QdL b≤1:=by cases b<;>decide
theorem Qj6{x:Int}(h:0≤x):imin 1 x=QdL (decide (x>0)):=by
 rw[QU];by_cases hx:x>0
 ·rw[decide_eq_true hx];show min 1 x=1;omega
 ·rw[decide_eq_false hx];show min 1 x=0;omega
def drF(N:List Int)(q:Nat)(a:Int):Int:=QbU [QdL (decide (e2 N>0))+2*e7 N+4*e8 N+8*QdL (decide (e0 N q=0)),e6 N,e1 N,e9 N] a
def drN(N:List Int)(q:Nat)(a:Int):List Int:=[e0 N q,e1 N,e2 N,e3 N,e4 N,e5 N,e6 N,if a=1∧¬e2 N=4 then 0 else e7 N,if a=0 then 0 else e8 N,e9 N]
def Qz5:PSpec:=⟨[gD,gi],fun(d,a,_)=>(some (List.length d.2≤140737488355328),.tup [.agg [.own 0,.own 1],I1 (drF d.1 (qF d.2) a)],[.arr (.int .i64) (drN d.1 (qF d.2) a),.arr (.int .u8) (dM d.2)])⟩
theorem Qxs:G0 178 Qz5.spec:=by
 have hP:S0 _:=Qa QeZ (Qa QBP (Qb (T:=tree)));have hT:=tabs hP Qc;refine Qz5.gd hT hP Tryz.func178 fun(d:Dv) (a:Int) hp=>?_
 obtain⟨N,M⟩:=d;have hl:M.length≤140737488355328:=hp _ rfl;obtain⟨r0,r1,r2,r3,r4,r5,r6,r7,r8,r9⟩:=eR N (qF M);have hor:=Qxr (decide (e2 N>0)) (e7 N) (e8 N) (decide (e0 N (qF M)=0)) r7 r8;rw[←Qj6 r2.1] at hor
 repeat' first|(apply Ea;conv=>whnf)|apply Eb|apply Ec<;>intro _|apply Ed<;>intro _|apply Ee<;>intro _|apply Ef hT hP
 all_goals(try subst_vars)
 all_goals first
  |exact rfl
  |exact hl
  |exact of_decide_eq_true rfl
  |exact .k [] [2,3] _ R R
  |skip
 ·rename_i h;have h:e0 N (qF M)=0:=h;refine .k [] [2,3] _ rfl (Qd0 ?_);show lor .i64 (lor .i64 (lor .i64 (imin 1 (e2 N)) (shl .i64 (e7 N) 1)) (shl .i64 (e8 N) 2)) 8=QdL (decide (e2 N>0))+2*e7 N+4*e8 N+8*QdL (decide (e0 N (qF M)=0));rw[←Qj6 r2.1];rw[decide_eq_true h] at hor ⊢;exact hor
 ·rename_i h;have h:¬e0 N (qF M)=0:=h;refine .k [] [2,3] _ rfl (Qd0 ?_);show lor .i64 (lor .i64 (lor .i64 (imin 1 (e2 N)) (shl .i64 (e7 N) 1)) (shl .i64 (e8 N) 2)) 0=QdL (decide (e2 N>0))+2*e7 N+4*e8 N+8*QdL (decide (e0 N (qF M)=0));rw[←Qj6 r2.1];rw[decide_eq_false h] at hor ⊢;exact hor
 ·rename_i h _;have h:(e2 N != 4)=true:=h;have h:¬e2 N=4:=by simpa using h
  refine .mk [] [2,3] _ R R R R R (Qt (l:=[e0 N (qF M),e1 N,e2 N,e3 N,e4 N,e5 N,e6 N,0,e8 N,e9 N]) (l':=drN N (qF M) 1) ?_ rfl) rfl;rw[drN,if_pos ⟨rfl,h⟩];rfl
 ·rename_i h _;have h:(e2 N != 4)=false:=h;have h:e2 N=4:=by simpa using h
  refine .mk [] [2,3] _ R R R R R (Qt (l:=dN N (qF M)) (l':=drN N (qF M) 1) ?_ rfl) rfl;rw[Qxq,drN,if_neg (fun z=>z.2 h)];rfl
 ·rename_i g0 g1 g2 g3
  have e:drF N (qF M) a=0:=QhF fun i hi=>by
   have:i<4:=hi;omega
  refine .mk [] [2,3] _ R R R R R (Qt (l:=dN N (qF M)) (l':=drN N (qF M) a) ?_ rfl) (Qd0 e.symm);rw[Qxq,drN,if_neg (fun z=>g1 z.1),if_neg g0]
def QbV(n:List Int)(k:Int):List Int :=
 if n.getD 2 0>0∨k%16=0∨k%16>4∨(k%16>2∧n.getD 0 0=0) then n
 else ((((n.set 2 (k%16)).set 3 (k/16%4)).set 4 0).set 5 30).set 7 (QdL (decide (k%16=4)))
theorem QlO(n:List Int)(i:Nat)(x y:Int):(n.set i x).set i y=n.set i y:=by simp
theorem Qxt{k:Int}(h:0≤k∧k<256):land .i64 k 15=k%16∧land .i64 (shr .i64 k 4) 3=k/16%4:=by
 have all:∀n,n<256→land .i64 ((n:Nat):Int) 15=((n:Nat):Int)%16∧land .i64 (shr .i64 ((n:Nat):Int) 4) 3=((n:Nat):Int)/16%4:=by decide +kernel
 obtain⟨n,rfl⟩:=Int.eq_ofNat_of_zero_le h.1;exact all n (by omega)
theorem QcI{n:List Int}{k:Int}(h:n.getD 2 0>0∨k%16=0∨k%16>4∨(k%16>2∧n.getD 0 0=0)):QbV n k=n:=by rw[QbV,if_pos h]
theorem Qc5{n:List Int}{k:Int}(h:¬(n.getD 2 0>0∨k%16=0∨k%16>4∨(k%16>2∧n.getD 0 0=0))):QbV n k=((((n.set 2 (k%16)).set 3 (k/16%4)).set 4 0).set 5 30).set 7 (QdL (decide (k%16=4))):=by rw[QbV,if_neg h]
theorem QJF(n:List Int)(k:Int):(n.set 6 k).getD 2 0=n.getD 2 0:=by simp[List.getD_eq_getElem?_getD]
def Qtb:WSpec:=⟨List Int×Int,fun x=>[.c (.own 0),I1 x.2],fun x=>[.arr (.int .i64) x.1],fun a b=>(match a,b with| [.c (.own 0),.c (.imm (.int .i64 k))],[.arr (.int .i64) n]=>some (n,k)|_,_=>none),
 fun x=>(some (x.1.length=10∧0≤x.1.getD 2 0∧0≤x.2∧x.2<256),.tup [],[some (.arr (.int .i64) (QbV x.1 x.2))],[])⟩
theorem Qxu:G0 238 Qtb.spec:=by
 have hP:S0 _:=(Qb (T:=tree))
 have hT:=tabs hP Qc;refine Qtb.gd hT hP Tryz.func238 ?_ fun((n,k):List Int×Int) hp=>?_
 ·intro a b x h;simp only[Qtb] at h;split at h
  ·injection h with h;subst h;exact⟨rfl,rfl⟩
  ·cases h
 obtain⟨hl,h2,hk⟩:n.length=10∧0≤n.getD 2 0∧0≤k∧k<256:=hp _ rfl;obtain⟨b1,b2⟩:=Qxt hk
 repeat' first|(apply Ea;conv=>whnf)|apply Eb|apply Ec<;>intro _|apply Ed<;>intro _|apply Ee<;>intro _|apply Ef hT hP
 all_goals first
  |(dsimp only at *;simp only[List.length_set,hl];decide)
  |skip
 ·rename_i g2;have g2:n.getD 2 0>0:=g2;refine .mk [] [0] _ R R R R R (Ql (l:=n) (l':=QbV n k) ?_) rfl;exact(QcI (.inl g2)).symm
 ·rename_i g2 g3;have g2:¬n.getD 2 0>0:=g2;have g3:land .i64 k 15<1:=g3;rw[b1] at g3;refine .mk [] [0] _ R R R R R (Ql (l:=n) (l':=QbV n k) ?_) rfl;exact(QcI (by omega)).symm
 ·rename_i g2 g3 g4;have g2:¬n.getD 2 0>0:=g2;have g3:¬land .i64 k 15<1:=g3;rw[b1] at g3;have g4:land .i64 k 15>4:=g4;rw[b1] at g4;refine .mk [] [0] _ R R R R R (Ql (l:=n) (l':=QbV n k) ?_) rfl;exact(QcI (by omega)).symm
 ·rename_i g2 g3 g4 g5 g6;have g2:¬n.getD 2 0>0:=g2;have g3:¬land .i64 k 15<1:=g3;rw[b1] at g3;have g4:¬land .i64 k 15>4:=g4;rw[b1] at g4;have g5:land .i64 k 15≥3:=g5;rw[b1] at g5;have g6:n.getD 0 0=0:=g6;refine .mk [] [0] _ R R R R R (Ql (l:=n) (l':=QbV n k) ?_) rfl;exact(QcI (by omega)).symm
 ·decide
 ·rename_i g2 g3 g4 g5 g6 g7;have g2:¬n.getD 2 0>0:=g2;have g3:¬land .i64 k 15<1:=g3;rw[b1] at g3;have g4:¬land .i64 k 15>4:=g4;rw[b1] at g4;have g5:land .i64 k 15≥3:=g5;rw[b1] at g5;have g6:¬n.getD 0 0=0:=g6;have g7:land .i64 k 15=4:=g7;rw[b1] at g7;refine .mk [] [0] _ R R R R R (Ql (l:=((((((n.set 2 (land .i64 k 15)).set 3 (land .i64 (shr .i64 k 4) 3)).set 4 0).set 5 30)).set 7 0).set 7 1) (l':=QbV n k) ?_) rfl;rw[Qc5 (by omega),b1,b2,decide_eq_true g7,QlO];rfl
 ·rename_i g2 g3 g4 g5 g6 g7;have g2:¬n.getD 2 0>0:=g2;have g3:¬land .i64 k 15<1:=g3;rw[b1] at g3;have g4:¬land .i64 k 15>4:=g4;rw[b1] at g4;have g5:land .i64 k 15≥3:=g5;rw[b1] at g5;have g6:¬n.getD 0 0=0:=g6;have g7:¬land .i64 k 15=4:=g7;rw[b1] at g7;refine .mk [] [0] _ R R R R R (Ql (l:=(((((n.set 2 (land .i64 k 15)).set 3 (land .i64 (shr .i64 k 4) 3)).set 4 0).set 5 30)).set 7 0) (l':=QbV n k) ?_) rfl;rw[Qc5 (by omega),b1,b2,decide_eq_false g7];rfl
 ·decide
 ·rename_i g2 g3 g4 g5 g7;have g2:¬n.getD 2 0>0:=g2;have g3:¬land .i64 k 15<1:=g3;rw[b1] at g3;have g4:¬land .i64 k 15>4:=g4;rw[b1] at g4;have g5:¬land .i64 k 15≥3:=g5;rw[b1] at g5;have g7:land .i64 k 15=4:=g7;rw[b1] at g7;refine .mk [] [0] _ R R R R R (Ql (l:=((((((n.set 2 (land .i64 k 15)).set 3 (land .i64 (shr .i64 k 4) 3)).set 4 0).set 5 30)).set 7 0).set 7 1) (l':=QbV n k) ?_) rfl;rw[Qc5 (by omega),b1,b2,decide_eq_true g7,QlO];rfl
 ·rename_i g2 g3 g4 g5 g7;have g2:¬n.getD 2 0>0:=g2;have g3:¬land .i64 k 15<1:=g3;rw[b1] at g3;have g4:¬land .i64 k 15>4:=g4;rw[b1] at g4;have g5:¬land .i64 k 15≥3:=g5;rw[b1] at g5;have g7:¬land .i64 k 15=4:=g7;rw[b1] at g7;refine .mk [] [0] _ R R R R R (Ql (l:=(((((n.set 2 (land .i64 k 15)).set 3 (land .i64 (shr .i64 k 4) 3)).set 4 0).set 5 30)).set 7 0) (l':=QbV n k) ?_) rfl;rw[Qc5 (by omega),b1,b2,decide_eq_false g7];rfl
def Q7(n:List Int)(a k:Int):List Int :=
 if a=0 then QbV n k else if a=1 then (if n.getD 2 0=4 then (n.set 6 k).set 7 0 else n.set 6 k) else if a=3 then n.set 9 (k%2) else n
def Qj7:WSpec:=⟨List Int×Int×Int,fun x=>[.c (.own 0),I1 x.2.1,I1 x.2.2],fun x=>[.arr (.int .i64) x.1],fun a b=>(match a,b with| [.c (.own 0),.c (.imm (.int .i64 a)),.c (.imm (.int .i64 k))],[.arr (.int .i64) n]=>some (n,a,k)|_,_=>none),
 fun x=>(some (x.1.length=10∧0≤x.1.getD 2 0∧0≤x.2.2∧x.2.2<256),.tup [],[some (.arr (.int .i64) (Q7 x.1 x.2.1 x.2.2))],[])⟩
theorem QqV:G0 143 Qj7.spec:=by
 have hP:S0 _:=Qa Qnc (Qb (T:=tree));have hT:=tabs hP Qc;refine Qj7.gd hT hP Tryz.func143 ?_ fun((n,a,k):List Int×Int×Int) hp=>?_
 ·intro a b x h;simp only[Qj7] at h;split at h
  ·injection h with h;subst h;exact⟨rfl,rfl⟩
  ·cases h
 obtain⟨hl,h2,hk⟩:n.length=10∧0≤n.getD 2 0∧0≤k∧k<256:=hp _ rfl;have ht:Int.tmod k 16=k%16:=Int.tmod_eq_emod_of_nonneg hk.1
 have hd:Int.tmod (i64.wrap (Int.tdiv k 16)) 4=k/16%4:=by
  rw[Int.tdiv_eq_ediv_of_nonneg hk.1,w64 (by omega) (by omega),Int.tmod_eq_emod_of_nonneg (by omega)]
 repeat' first|(apply Ea;conv=>whnf)|apply Eb|apply Ec<;>intro _|apply Ed<;>intro _|apply Ee<;>intro _|apply Ef hT hP
 all_goals first
  |(dsimp only at *;simp only[List.length_set,hl];decide)
  |skip
 all_goals try decide
 ·rename_i g1 g2;have g1:a=0:=g1;subst g1;have g2:(n.getD 2 0 != 0)=true:=g2;have g2:¬n.getD 2 0=0:=by simpa using g2
  refine .mk [] [0] _ R R R R R (Ql (l:=n) (l':=Q7 n 0 k) ?_) rfl;exact(QcI (by omega)).symm
 ·rename_i g1 g2 g3;have g1:a=0:=g1;subst g1;have g2:(n.getD 2 0 != 0)=false:=g2;have g2:n.getD 2 0=0:=by simpa using g2
  have g3:Int.tmod k 16=0:=g3;rw[ht] at g3;refine .mk [] [0] _ R R R R R (Ql (l:=n) (l':=Q7 n 0 k) ?_) rfl;exact(QcI (by omega)).symm
 ·rename_i g1 g2 g3 g4;have g1:a=0:=g1;subst g1;have g2:(n.getD 2 0 != 0)=false:=g2;have g2:n.getD 2 0=0:=by simpa using g2
  have g3:¬Int.tmod k 16=0:=g3;rw[ht] at g3;have g4:Int.tmod k 16>4:=g4;rw[ht] at g4;refine .mk [] [0] _ R R R R R (Ql (l:=n) (l':=Q7 n 0 k) ?_) rfl;exact(QcI (by omega)).symm
 ·rename_i g1 g2 g3 g4 g5 g6;have g1:a=0:=g1;subst g1;have g2:(n.getD 2 0 != 0)=false:=g2;have g2:n.getD 2 0=0:=by simpa using g2
  have g3:¬Int.tmod k 16=0:=g3;rw[ht] at g3;have g4:¬Int.tmod k 16>4:=g4;rw[ht] at g4;have g5:Int.tmod k 16>2:=g5;rw[ht] at g5;have g6:n.getD 0 0=0:=g6;refine .mk [] [0] _ R R R R R (Ql (l:=n) (l':=Q7 n 0 k) ?_) rfl;exact(QcI (by omega)).symm
 ·rename_i g1 g2 g3 g4 g5 g6;have g1:a=0:=g1;subst g1;have g2:(n.getD 2 0 != 0)=false:=g2;have g2:n.getD 2 0=0:=by simpa using g2
  have g3:¬Int.tmod k 16=0:=g3;rw[ht] at g3;have g4:¬Int.tmod k 16>4:=g4;rw[ht] at g4;have g5:Int.tmod k 16>2:=g5;rw[ht] at g5;have g6:¬n.getD 0 0=0:=g6;refine .mk [] [0] _ R R R R R (Ql (l:=((((n.set 2 (Int.tmod k 16)).set 3 (Int.tmod (i64.wrap (Int.tdiv k 16)) 4)).set 4 0).set 5 30).set 7 (QdL (Int.tmod k 16==4))) (l':=Q7 n 0 k) ?_) rfl;show _=QbV n k;rw[Qc5 (by omega),ht,hd];rfl
 ·rename_i g1 g2 g3 g4 g5;have g1:a=0:=g1;subst g1;have g2:(n.getD 2 0 != 0)=false:=g2;have g2:n.getD 2 0=0:=by simpa using g2
  have g3:¬Int.tmod k 16=0:=g3;rw[ht] at g3;have g4:¬Int.tmod k 16>4:=g4;rw[ht] at g4;have g5:¬Int.tmod k 16>2:=g5;rw[ht] at g5;refine .mk [] [0] _ R R R R R (Ql (l:=((((n.set 2 (Int.tmod k 16)).set 3 (Int.tmod (i64.wrap (Int.tdiv k 16)) 4)).set 4 0).set 5 30).set 7 (QdL (Int.tmod k 16==4))) (l':=Q7 n 0 k) ?_) rfl;show _=QbV n k;rw[Qc5 (by omega),ht,hd];rfl
 ·rename_i g0 g1 g2;have g1:a=1:=g1;subst g1;have g2:(n.set 6 k).getD 2 0=4:=g2;rw[QJF] at g2;refine .mk [] [0] _ R R R R R (Ql (l:=(n.set 6 k).set 7 0) (l':=Q7 n 1 k) ?_) rfl;rw[Q7,if_neg (by omega),if_pos rfl,if_pos g2]
 ·rename_i g0 g1 g2;have g1:a=1:=g1;subst g1;have g2:¬(n.set 6 k).getD 2 0=4:=g2;rw[QJF] at g2;refine .mk [] [0] _ R R R R R (Ql (l:=n.set 6 k) (l':=Q7 n 1 k) ?_) rfl;rw[Q7,if_neg (by omega),if_pos rfl,if_neg g2]
 ·rename_i g0 g1 g2;have g2:a=3:=g2;subst g2;refine .mk [] [0] _ R R R R R (Ql (l:=n.set 9 (Int.tmod k 2)) (l':=Q7 n 3 k) ?_) rfl;rw[Q7,if_neg (by omega),if_neg (by omega),if_pos rfl,Int.tmod_eq_emod_of_nonneg hk.1]
 ·rename_i g0 g1 g2;have g0:¬a=0:=g0;have g1:¬a=1:=g1;have g2:¬a=3:=g2;refine .mk [] [0] _ R R R R R (Ql (l:=n) (l':=Q7 n a k) ?_) rfl;rw[Q7,if_neg g0,if_neg g1,if_neg g2]
def dwN(N:List Int)(q:Nat)(a k:Int):List Int:=Q7 (dN N q) a (k%256)
def Qtc:PSpec:=⟨[gD,gi,gi],fun(d,a,k,_)=>(some (List.length d.2≤140737488355328),.agg [.own 0,.own 1],[.arr (.int .i64) (dwN d.1 (qF d.2) a k),.arr (.int .u8) (dM d.2)])⟩
theorem Qtd:G0 185 Qtc.spec:=by
 have hP:S0 _:=Qa QeZ (Qa Qxu (Qa QN (Qb (T:=tree))));have hT:=tabs hP Qc;refine Qtc.gd hT hP Tryz.func185 fun(d:Dv) (a k:Int) hp=>?_
 obtain⟨N,M⟩:=d;have hl:M.length≤140737488355328:=hp _ rfl;obtain⟨r0,r1,r2,r3,r4,r5,r6,r7,r8,r9⟩:=eR N (qF M)
 repeat' first|(apply Ea;conv=>whnf)|apply Eb|apply Ec<;>intro _|apply Ed<;>intro _|apply Ee<;>intro _|apply Ef hT hP
 all_goals(try subst_vars)
 all_goals first
  |exact rfl
  |exact hl
  |exact of_decide_eq_true rfl
  |exact .k [] [2,3] _ R R
  |skip
 ·refine⟨rfl,r2.1,?_,?_⟩
  ·exact(by omega:0≤k%256)
  ·exact(by omega:k%256<256)
 ·rename_i h _;have h:(dN N (qF M)).getD 2 0=4:=h;refine .mk [] [2,3] _ R R R R R (Qt (l:=((dN N (qF M)).set 6 (k%256)).set 7 0) (l':=dwN N (qF M) 1 k) ?_ rfl) rfl;rw[dwN,Q7,if_neg (by omega),if_pos rfl,if_pos h]
 ·rename_i h _;have h:¬(dN N (qF M)).getD 2 0=4:=h;refine .mk [] [2,3] _ R R R R R (Qt (l:=(dN N (qF M)).set 6 (k%256)) (l':=dwN N (qF M) 1 k) ?_ rfl) rfl;rw[dwN,Q7,if_neg (by omega),if_pos rfl,if_neg h]
 ·refine .mk [] [2,3] _ R R R R R (Qt (l:=(dN N (qF M)).set 9 (k%2 ^ (1:Int).toNat)) (l':=dwN N (qF M) 3 k) ?_ rfl) rfl;rw[dwN,Q7,if_neg (by omega),if_neg (by omega),if_pos rfl];have e:k%256%2=k%2:=by omega
  rw[e];rfl
 ·rename_i g0 g1 g2;refine .mk [] [2,3] _ R R R R R (Qt (l:=dN N (qF M)) (l':=dwN N (qF M) a k) ?_ rfl) rfl;rw[dwN,Q7,if_neg g0,if_neg g1,if_neg g2]
def dcN(N:List Int)(q:Nat)(k:Int):List Int:=if e2 N=0 then [if k>0∧k≤q then k%256 else 0,e1 N,e2 N,e3 N,e4 N,e5 N,e6 N,e7 N,e8 N,e9 N] else dN N q
def QoV:PSpec:=⟨[gD,gi],fun(d,k,_)=>(some (List.length d.2≤140737488355328),.agg [.own 0,.own 1],[.arr (.int .i64) (dcN d.1 (qF d.2) k),.arr (.int .u8) (dM d.2)])⟩
theorem QqW:G0 243 QoV.spec:=by
 have hP:S0 _:=Qa QeZ (Qb (T:=tree));have hT:=tabs hP Qc;refine QoV.gd hT hP Tryz.func243 fun(d:Dv) (k:Int) hp=>?_
 obtain⟨N,M⟩:=d;have hl:M.length≤140737488355328:=hp _ rfl
 have hqi:i64.wrap (Int.tdiv ((dM M).length:Int) 256)=((qF M:Nat):Int):=by
  have:=Qnd M;rw[QhI,Int.tdiv_eq_ediv_of_nonneg (by omega),w64 (by omega) (by omega)];omega
 repeat' first|(apply Ea;conv=>whnf)|apply Eb|apply Ec<;>intro _|apply Ed<;>intro _|apply Ee<;>intro _|apply Ef hT hP
 all_goals first
  |exact rfl
  |exact hl
  |exact of_decide_eq_true rfl
  |skip
 ·rename_i h hk1 hk2;have h:e2 N=0:=h;have hk2:k≤i64.wrap (Int.tdiv ((dM M).length:Int) 256):=hk2;rw[hqi] at hk2;refine .mk [] [2,3] _ R R R R R (Qt (l:=[Int.tmod k 256,e1 N,e2 N,e3 N,e4 N,e5 N,e6 N,e7 N,e8 N,e9 N]) (l':=dcN N (qF M) k) ?_ rfl) rfl;rw[dcN,if_pos h,if_pos ⟨hk1,hk2⟩,Int.tmod_eq_emod_of_nonneg (by omega)]
 ·rename_i h hk1 hk2;have h:e2 N=0:=h;have hk2:¬k≤i64.wrap (Int.tdiv ((dM M).length:Int) 256):=hk2;rw[hqi] at hk2;refine .mk [] [2,3] _ R R R R R (Qt (l:=[0,e1 N,e2 N,e3 N,e4 N,e5 N,e6 N,e7 N,e8 N,e9 N]) (l':=dcN N (qF M) k) ?_ rfl) rfl;rw[dcN,if_pos h,if_neg (fun z=>hk2 z.2)]
 ·rename_i h hk1;have h:e2 N=0:=h;refine .mk [] [2,3] _ R R R R R (Qt (l:=[0,e1 N,e2 N,e3 N,e4 N,e5 N,e6 N,e7 N,e8 N,e9 N]) (l':=dcN N (qF M) k) ?_ rfl) rfl;rw[dcN,if_pos h,if_neg (fun z=>hk1 z.1)]
 ·rename_i h;have h:¬e2 N=0:=h;refine .mk [] [2,3] _ R R R R R (Qt (l:=dN N (qF M)) (l':=dcN N (qF M) k) ?_ rfl) rfl;rw[dcN,if_neg h]
def QBW(N:List Int):Bool:=decide (e9 N=1)&&decide (e7 N=1)
def QEA:PSpec:=⟨[gD],fun(d,_)=>(some (List.length d.2≤140737488355328),.cell (bv (QBW d.1)),[])⟩
theorem QBX:G0 127 QEA.spec:=by
 have hP:S0 _:=Qa QeZ (Qb (T:=tree));have hT:=tabs hP Qc;refine QEA.gd hT hP Tryz.func127 fun(d:Dv) hp=>?_
 obtain⟨N,M⟩:=d;have hl:M.length≤140737488355328:=hp _ rfl
 repeat' first|(apply Ea;conv=>whnf)|apply Eb|apply Ec<;>intro _|apply Ed<;>intro _|apply Ee<;>intro _|apply Ef hT hP
 all_goals first
  |exact hl
  |exact of_decide_eq_true rfl
  |(rename_i h
    have h:e9 N=1:=h;refine .k [] [] _ rfl (Qi ?_);show decide (e7 N=1)=(decide (e9 N=1)&&decide (e7 N=1))
    rw[decide_eq_true h];rfl)
  |(rename_i h
    have h:¬e9 N=1:=h;refine .k [] [] _ rfl (Qi ?_);show _=(decide (e9 N=1)&&decide (e7 N=1))
    rw[decide_eq_false h];rfl)
def QEB:PSpec:=⟨[gC,gD],fun(c,d,_)=>(some (c.2.1=8∧List.length d.2≤140737488355328),.cell (bv (QBW d.1)),[])⟩
theorem QBY:G0 16 QEB.spec:=by
 have hP:S0 _:=Qa Qe1 (Qb (T:=tree));have hT:=tabs hP Qc;refine QEB.gd hT hP Tryz.func16 fun(c:Cv) (d:Dv) hp=>?_
 obtain⟨cn,ck,cb,cs,cd⟩:=c;obtain⟨N,M⟩:=d;obtain⟨rfl,hl⟩:ck=8∧M.length≤140737488355328:=hp _ rfl;obtain⟨r0,r1,r2,r3,r4,r5,r6,r7,r8,r9⟩:=eR N (qF M)
 repeat' first|(apply Ea;conv=>whnf)|apply Eb|apply Ec<;>intro _|apply Ed<;>intro _|apply Ee<;>intro _|apply Ef hT hP
 all_goals first
  |exact⟨rfl,hl⟩
  |exact of_decide_eq_true rfl
  |(refine .k [] [] _ rfl (Qi ?_)
    show(i64.wrap (e9 N*e7 N)==1)=(decide (e9 N=1)&&decide (e7 N=1))
    have a1:e9 N=0∨e9 N=1:=by omega
    have a2:e7 N=0∨e7 N=1:=by omega
    rcases a1 with a1|a1<;>rcases a2 with a2|a2<;>rw[a1,a2]<;>decide +kernel)
def QEC:PSpec:=⟨[gD],fun(d,_)=>(some (List.length d.2≤140737488355328),I (e1 d.1),[])⟩
theorem QBZ:G0 219 QEC.spec:=by
 have hP:S0 _:=Qa QeZ (Qb (T:=tree));have hT:=tabs hP Qc;refine QEC.gd hT hP Tryz.func219 fun(d:Dv) hp=>?_
 obtain⟨N,M⟩:=d;have hl:M.length≤140737488355328:=hp _ rfl
 repeat' first|(apply Ea;conv=>whnf)|apply Eb|apply Ec<;>intro _|apply Ed<;>intro _|apply Ee<;>intro _|apply Ef hT hP
 all_goals first
  |exact hl
  |exact of_decide_eq_true rfl
  |exact .k [] [] _ R R
def Qte:PSpec:=⟨[gC,gD],fun(c,d,_)=>(some (c.2.1=8∧List.length d.2≤140737488355328),I (e1 d.1),[])⟩
theorem Qtf:G0 72 Qte.spec:=by
 have hP:S0 _:=Qa Qe1 (Qb (T:=tree));have hT:=tabs hP Qc;refine Qte.gd hT hP Tryz.func72 fun(c:Cv) (d:Dv) hp=>?_
 obtain⟨cn,ck,cb,cs,cd⟩:=c;obtain⟨N,M⟩:=d;obtain⟨rfl,hl⟩:ck=8∧M.length≤140737488355328:=hp _ rfl
 repeat' first|(apply Ea;conv=>whnf)|apply Eb|apply Ec<;>intro _|apply Ed<;>intro _|apply Ee<;>intro _|apply Ef hT hP
 all_goals first
  |exact⟨rfl,hl⟩
  |exact of_decide_eq_true rfl
  |exact .k [] [] _ R R
def Qc6(N:List Int):Int:=if e2 N=0 then 100000 else max 1 (e5 N)-1
def Qz6:PSpec:=⟨[gD],fun(d,_)=>(some (List.length d.2≤140737488355328),I (Qc6 d.1),[])⟩
theorem Qxv:G0 153 Qz6.spec:=by
 have hP:S0 _:=Qa QeZ (Qb (T:=tree));have hT:=tabs hP Qc;refine Qz6.gd hT hP Tryz.func153 fun(d:Dv) hp=>?_
 obtain⟨N,M⟩:=d;have hl:M.length≤140737488355328:=hp _ rfl;obtain⟨r0,r1,r2,r3,r4,r5,r6,r7,r8,r9⟩:=eR N (qF M)
 repeat' first|(apply Ea;conv=>whnf)|apply Eb|apply Ec<;>intro _|apply Ed<;>intro _|apply Ee<;>intro _|apply Ef hT hP
 all_goals first
  |exact hl
  |exact of_decide_eq_true rfl
  |(rename_i h
    have h:e2 N=0:=h;refine .k [] [] _ rfl (Qd ?_);show _=Qc6 N
    rw[Qc6,if_pos h])
  |(rename_i h
    have h:¬e2 N=0:=h;refine .k [] [] _ rfl (Qd ?_);show i64.wrap (imax 1 (e5 N)-1)=Qc6 N
    rw[Qc6,if_neg h,QT,w64 (by omega) (by omega)])
def Qtg:PSpec:=⟨[gC,gD],fun(c,d,_)=>(some (c.2.1=8∧List.length d.2≤140737488355328),I (Qc6 d.1),[])⟩
theorem Qth:G0 29 Qtg.spec:=by
 have hP:S0 _:=Qa Qe1 (Qb (T:=tree));have hT:=tabs hP Qc;refine Qtg.gd hT hP Tryz.func29 fun(c:Cv) (d:Dv) hp=>?_
 obtain⟨cn,ck,cb,cs,cd⟩:=c;obtain⟨N,M⟩:=d;obtain⟨rfl,hl⟩:ck=8∧M.length≤140737488355328:=hp _ rfl;obtain⟨r0,r1,r2,r3,r4,r5,r6,r7,r8,r9⟩:=eR N (qF M)
 repeat' first|(apply Ea;conv=>whnf)|apply Eb|apply Ec<;>intro _|apply Ed<;>intro _|apply Ee<;>intro _|apply Ef hT hP
 all_goals first
  |exact⟨rfl,hl⟩
  |exact of_decide_eq_true rfl
  |(rename_i h
    have h:e2 N>0:=h;refine .k [] [] _ rfl (Qd ?_);show imax 0 (i64.wrap (e5 N-1))=Qc6 N;rw[Qc6,if_neg (by omega),QT,w64 (by omega) (by omega)]
    omega)
  |(rename_i h
    have h:¬e2 N>0:=h;refine .k [] [] _ rfl (Qd ?_);show _=Qc6 N
    rw[Qc6,if_pos (by omega)])
def addF(a b c n:Int):Int×Int :=
 let s:=i64.wrap (i64.wrap (QmN a (QaD n)+QmN b (QaD n))+land .i64 c 1)
 (QmN s (QaD n),shr .i64 s (QaD n))
def Qae(a b c:Int):Int:=if a<b then b else if a>c then c else a
def QAe:PSpec:=⟨[gi,gi,gi],fun(a,b,c,_)=>(none,I (Qae a b c),[])⟩
theorem QgX:G0 80 QAe.spec:=by
 have hP:S0 _:=(Qb (T:=tree))
 have hT:=tabs hP Qc;refine QAe.gd hT hP Tryz.func80 fun(a b c:Int) _=>?_
 repeat' first|(apply Ea;conv=>whnf)|apply Eb|apply Ed<;>intro _|apply Ee<;>intro _
 ·refine .k [] [] _ rfl (Qd ?_);show _=Qae a b c;unfold Qae;rw[if_pos (by assumption)]
 ·refine .k [] [] _ rfl (Qd ?_);show _=Qae a b c;unfold Qae;rw[if_neg (by assumption),if_pos (by assumption)]
 ·refine .k [] [] _ rfl (Qd ?_);show _=Qae a b c;unfold Qae;rw[if_neg (by assumption),if_neg (by assumption)]
end Go.Proofs.YtofgbclopbmlcaaGreat

namespace Go.Fw
open Go.IntKind (i64)
set_option linter.unusedVariables false
set_option linter.unusedSimpArgs false
theorem QaK.nil_ro{E:Env}(t:Ty){vs:List Value}(h:QaK E (.imm (.slice none 0 0)) vs):QaK E (.ro t []) vs:=by
 obtain⟨e,_⟩:=h;exact⟨_,e,none,0,rfl,Nat.le_refl _,fun hne=>absurd rfl hne⟩
theorem Le.nilro{m:Nat}{st:St}(i:Nat)(t:Ty)(h:st.tmps[i]?=some (.imm (.slice none 0 0))):Le m st { tmps:=st.tmps.set i (.cell (.ro t [])),heap:=st.heap }:=by
 intro E0 E a hm hs hf;refine⟨E,rfl,⟨hs.defers,?_,fun j y hy=>?_,hs.ok,hs.H,hs.U⟩,hf⟩
 ·simpa using hs.len
 ·have hy:(st.tmps.set i (.cell (.ro t [])))[j]?=some y:=hy;rw[List.getElem?_set] at hy;by_cases e:i=j
  ·subst e;obtain⟨v,h1,h2⟩:=hs.tmp i _ h;rw[if_pos rfl,if_pos (List.getElem?_eq_some_iff.1 h).1] at hy;injection hy with hy
   subst hy;exact⟨v,h1,QaK.nil_ro t h2⟩
  ·rw[if_neg e] at hy;exact hs.tmp j y hy
def QIS(c d:Cell):Prop:=c=d∨(c=.imm (.slice none 0 0)∧∃t,d=.ro t [])
def QoX:List Cell→List Cell→Prop
 | [],[]=>True
 |c::cs,d::ds=>QIS c d∧QoX cs ds
 |_,_=>False
theorem QhP:∀{cs ds:List Cell},QoX cs ds→ds.map Cell.size=cs.map Cell.size
 | [],[],_=>rfl
 |c::cs,d::ds,⟨h1,h2⟩=>by
  simp only[List.map_cons,QhP h2];rcases h1 with rfl|⟨rfl,t,rfl⟩<;>rfl
 | [],_::_,h=>h.elim
 |_::_,[],h=>h.elim
theorem Qjc{E:Env}:∀{cs ds:List Cell} {vs:List Value},QoX cs ds→IR E cs vs→IR E ds vs
 | [],[],_,_,h=>h
 |c::cs,d::ds,_,⟨h1,h2⟩,⟨r,s,e,g1,g2⟩=>by
  refine⟨r,s,e,?_,Qjc h2 g2⟩;rcases h1 with rfl|⟨rfl,t,rfl⟩
  ·exact g1
  ·exact QaK.nil_ro t g1
 | [],_::_,_,h,_=>h.elim
 |_::_,[],_,h,_=>h.elim
theorem Qgi{α:Type}:∀(l:List (Option Blk)) (b:Nat) (o:Option Blk) (j:Nat),b<l.length→(QaJ l b o)[j]?=if j=b then some o else l[j]?
 |_::r,0,o,j,_=>by cases j<;>simp[QaJ]
 |x::r,b+1,o,j,h=>by
  cases j with
  |zero=>simp[QaJ]
  |succ j =>
   have:=Qgi (α:=α) r b o j (by simpa using h);simpa[QaJ] using this
theorem QhQ:∀(l:List (Option Blk)) (b:Nat) (o:Option Blk),b<l.length→(QaJ l b o).length=l.length
 |_::r,0,o,_=>by simp[QaJ]
 |x::r,b+1,o,h=>by simpa[QaJ] using QhQ r b o (by simpa using h)
theorem Le.nilroH{m:Nat}{st:St}(b:Nat)(cs ds:List Cell)(h:st.heap[b]?=some (some (.var cs)))(hn:QoX cs ds):Le m st { tmps:=st.tmps,heap:=QaJ st.heap b (some (.var ds)) }:=by
 intro E0 E a hm hs hf;have hlt:b<st.heap.length:=(List.getElem?_eq_some_iff.1 h).1;have hlook:st.look b=some (.var cs):=by unfold St.look;rw[h]
 have hb:E.H b=some (.var cs):=(hs.H b).trans hlook;obtain⟨hu,⟨g,ca,el,hr,hw,hir⟩,hS⟩:=hs.ok.blk b _ hb;have hsh:shape (.var ds)=shape (.var cs):=by simp only[shape];rw[QhP hn]
 have hwr:Writes E g ca ca el E.w :=
  ⟨hw,hw,rfl,fun _ _=>rfl,rfl,rfl,rfl,rfl⟩
 refine⟨Qed E b (.var ds) E.w,rfl,⟨hs.defers,hs.len,fun j y hy=>?_,QmU hs.ok hb hr hsh hwr (Qjc hn hir),fun x=>?_,fun x hx=>?_⟩,?_⟩
 ·obtain⟨v,h1,h2⟩:=hs.tmp j y hy;exact⟨v,h1,h2.ext (Qee hs.ok hb hr hsh hwr)⟩
 ·show(if x=b then some (.var ds) else E.H x)=St.look { tmps:=st.tmps,heap:=QaJ st.heap b (some (.var ds)) } x;unfold St.look;rw[Qgi (α:=Nat) _ _ _ _ hlt];split
  ·rfl
  ·exact hs.H x
 ·have:=hs.U x hx;simpa[QhQ _ _ _ hlt] using this
 ·exact⟨QmV hs.ok hb hr hwr hf.fr,hf.ext.trans (Qee hs.ok hb hr hsh hwr)⟩
section
variable {P:Program} {T:Tab}
theorem QH(hT:TabOk P T)(hP:Q9 P T){A:Type}{m:Nat}{c:Code}{st:St}{K:Cont}(n:Nat)(S:Int→A→St)(I:Nat→A→Prop)(a0:A)(h0:Le m st (S 0 a0))(hI:I 0 a0)
 (h:∀(k:Nat) a,k≤n→I k a→Go (QhC (S (k:Int) a) fun st=>exR P T m c st fun e st'=>match e with|.normal=>∃i' a',(k<n∧i'=((k+1:Nat):Int)∧I (k+1) a')∧Le m st' (S i' a')|e=>K e st')):LoopG P m c st K:=by
 refine Qlo (X:=Nat×A) (fun x=>S (x.1:Int) x.2) (fun x=>x.1≤n∧I x.1 x.2) (fun x=>n-x.1) (0,a0) h0 ⟨Nat.zero_le _,hI⟩ fun x hx=>?_
 refine Does.mono (Qm9 hT hP (h x.1 x.2 hx.1 hx.2)) fun e st' hk=>?_
 cases e with
 |normal =>
  obtain⟨i',a',⟨hlt,e,hi⟩,hle⟩:=hk;subst e;exact⟨(x.1+1,a'),⟨hlt,hi⟩,by show n-(x.1+1)<n-x.1;omega,hle⟩
 |_=>exact hk
end
structure FSpec where
 gs:List Sig
 out:Args gs→Nat→Option Prop×AV×List Blk
def QD6:(gs:List Sig)→List V1→Option (Args gs×Nat)
 | [],l=>match l with
   | [.c (.fn g [])]=>some ((),g)
   |_=>none
 |g::gs,l=>match l with
  |x::xs=>match QzQ g x with
   |some d=>(match QD6 gs xs with|some (r,f)=>some ((d,r),f)|none=>none)
   |none=>none
  | []=>none
def Qtn(f:Nat):(gs:List Sig)→Args gs→List V1
 | [],_=>[.c (.fn f [])]
 |g::gs,(a,r)=>QcF g a::Qtn f gs r
def FSpec.spec(s:FSpec):CSpec:={ wr:=false,run:=fun args bl=>match bl with
 | []=>match QD6 s.gs args with
   |some (xs,f)=>some ((s.out xs f).1,(s.out xs f).2.1,[],(s.out xs f).2.2)
   |none=>none
 |_::_=>none }
theorem QoY{E:Env}(hH:HeapOk E)(hn:∀b,E.H b=none):∀{gs:List Sig} {xs:List V1} {ds:Args gs} {f:Nat} {vs:List Value},QD6 gs xs=some (ds,f)→VsR E xs vs→VsR E (Qtn f gs ds) vs
 | [],xs,ds,f,vs,h,hv=>by
   unfold QD6 at h;split at h
   ·injection h with h
    injection h with h1 h2
    subst h2;exact hv
   ·cases h
 |g::gs,[],ds,f,vs,h,hv=>by simp[QD6] at h
 |g::gs,x::xs,ds,f,vs,h,⟨v,r,e,h1,h2⟩=>by
  unfold QD6 at h;simp only at h;split at h
  ·rename_i d hd;split at h
   ·rename_i rs f' hr;injection h with h
    injection h with e1 e2
    subst e1;subst e2;exact⟨v,r,e,QoB hH hn hd h1,QoY hH hn hr h2⟩
   ·cases h
  ·cases h
theorem FSpec.good{P:Program}{T:Tab}{f:FuncId}{fn:Func}(hT:TabOk P T)(hP:Q9 P T)(hf:P.funcs[f]?=some fn)(hn:(fn.name == "runtime.NumGoroutine")=false)(s:FSpec)(hb:fn.body.isSome=true)
 (h:QcN s.gs fun xs=>∀g:Nat,(∀q,(s.out xs g).1=some q→q)→Go (QhD P T fn (Qtn g s.gs xs) [] (s.out xs g).2.1 [] (s.out xs g).2.2)):QQ P f s.spec:=by
 refine⟨?_,fn,hf,hn,hb⟩;obtain⟨c,hc⟩:=Option.isSome_iff_exists.1 hb;refine QjR hT hf hc _ fun args bl p r upd fresh hrun hp=>?_
 unfold FSpec.spec at hrun;simp only at hrun;split at hrun
 ·split at hrun
  ·rename_i xs g hxs;simp only[Option.some.injEq,Prod.mk.injEq] at hrun;obtain⟨rfl,rfl,rfl,rfl⟩:=hrun;refine⟨_,fun E vs hok hH hv=>QoY hok (fun b=>by rw[hH];simp) hxs hv,?_⟩;have:=(h.out xs g hp).out;rw[QhE] at this;unfold Qi7 at this;rw[hc] at this;simp only[Qhg,Qfk,Qbd] at this;exact QgS hT hP c this
  ·cases hrun
 ·cases hrun
theorem Le.nilH{m:Nat}{st:St}(b:Nat)(t:Ty)(cs ds:List Cell)(h:st.heap[b]?=some (some (.var cs)))(hn:QEj st.heap.length cs=some ds)(hsz:ds.map Cell.size=cs.map Cell.size) :
 Le m st { tmps:=st.tmps,heap:=QaJ (QaJ st.heap st.heap.length (some (.arr t []))) b (some (.var ds)) }:=by
 intro E0 E a hm hs hf;have hlt:b<st.heap.length:=(List.getElem?_eq_some_iff.1 h).1;have hU:¬E.U st.heap.length:=fun hu=>by have:=hs.U _ hu;omega
 have hstep:Step E { pre:=none,val:=.dead,add:=[.arr t []],set:=[] } st.heap.length (Qb4 E [] st.heap.length t):=Step.nil (us:=[]) hs.ok rfl rfl hU;have hs1:=hs.step (dst:=none) (v:=undef) hstep trivial;have hf1:=hf.step hstep;have hlook:st.look b=some (.var cs):=by unfold St.look;rw[h]
 have hb:E.H b=some (.var cs):=(hs.H b).trans hlook;have hne:b≠st.heap.length:=by omega
 obtain⟨hu,⟨g,ca,el,hr,hw,hir⟩,hS⟩:=hs.ok.blk b _ hb;have hb1:(Qb4 E [] st.heap.length t).H b=some (.var cs):=by simp[Qb4,hne,hb]
 have hr1:(Qb4 E [] st.heap.length t).ρ b=some g:=by simp[Qb4,hne,hr]
 have hsh:shape (.var ds)=shape (.var cs):=by simp only[shape];rw[hsz]
 have hwr:Writes (Qb4 E [] st.heap.length t) g ca ca el (Qb4 E [] st.heap.length t).w:=⟨hw,hw,rfl,fun _ _=>rfl,rfl,rfl,rfl,rfl⟩
 have hir1:=QjP hstep.ext hn hir;have hheap:(st.act st.heap.length { pre:=none,val:=.dead,add:=[.arr t []],set:=[] }).heap=QaJ st.heap st.heap.length (some (.arr t [])):=rfl
 have hlen:b<(QaJ st.heap st.heap.length (some (.arr t []))).length:=by
  have:=(Qei [.arr t []] st.heap st.heap.length).1;exact Nat.lt_of_lt_of_le hlt this
 refine⟨Qed (Qb4 E [] st.heap.length t) b (.var ds) (Qb4 E [] st.heap.length t).w,rfl,⟨hs1.defers,hs1.len,fun j y hy=>?_,QmU hs1.ok hb1 hr1 hsh hwr hir1,fun x=>?_,fun x hx=>?_⟩,?_⟩
 ·obtain⟨v,h1,h2⟩:=hs1.tmp j y hy;exact⟨v,h1,h2.ext (Qee hs1.ok hb1 hr1 hsh hwr)⟩
 ·show(if x=b then some (.var ds) else (Qb4 E [] st.heap.length t).H x)=St.look { tmps:=st.tmps,heap:=QaJ (QaJ st.heap st.heap.length (some (.arr t []))) b (some (.var ds)) } x;unfold St.look;rw[Qgi (α:=Nat) _ _ _ _ hlen];split
  ·rfl
  ·exact hs1.H x
 ·have:=hs1.U x hx;show x<(QaJ (QaJ st.heap st.heap.length (some (.arr t []))) b (some (.var ds))).length;rw[QhQ _ _ _ hlen];exact this
 ·exact⟨QmV hs1.ok hb1 hr1 hwr hf1.fr,hf1.ext.trans (Qee hs1.ok hb1 hr1 hsh hwr)⟩
theorem PSpec.of_calls{P:Program}{f:FuncId}{fn:Func}(hf:P.funcs[f]?=some fn)(hn:(fn.name == "runtime.NumGoroutine")=false)(hb:fn.body.isSome=true)(s:PSpec)(hfr:∀xs,(s.out xs).2.2=[])
 (h:∀(E:Env) (xs:Args s.gs) (vs:Array Value),VsR E (QaM s.gs xs) vs.toList→(∀q,(s.out xs).1=some q→q)→Calls P f vs E.w fun e w'=>(∃v,e=.returned v∧AVR E (s.out xs).2.1 v)∧w'=E.w):QQ P f s.spec:=by
 refine⟨?_,fn,hf,hn,hb⟩;intro E0 vs args bl p r upd fresh hH hU hok hvs hrun hp;unfold PSpec.spec at hrun;simp only at hrun;split at hrun
 ·split at hrun
  ·rename_i xs hxs;simp only[Option.some.injEq,Prod.mk.injEq] at hrun;obtain⟨rfl,rfl,rfl,rfl⟩:=hrun;have hv:=QeW hok (fun b=>by rw[hH];simp) hxs hvs;refine(h E0 xs vs hv hp).mono ?_
   rintro e w' ⟨⟨v,rfl,hr⟩,rfl⟩
   refine⟨v,E0,rfl,rfl,hr,hok,fun b=>?_,fun b=>?_,Ext.refl E0,Qi2⟩
   ·rw[hH,hfr];simp
   ·rw[hU,hfr];simp
  ·cases hrun
 ·cases hrun
end Go.Fw

