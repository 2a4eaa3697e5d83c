/- Part 16 of the proof. Conditions: none. -/
import Derived.Test.YtofgbclopbmlcaaGreatG13
import Derived.Test.YtofgbclopbmlcaaGreatG10
import Derived.Test.YtofgbclopbmlcaaGreatG15
import Derived.Test.YtofgbclopbmlcaaGreatG14
namespace Go.Proofs.YtofgbclopbmlcaaGreat
open Go.IntKind (i64)
open Go.Fw
set_option linter.unusedVariables false
set_option linter.unusedSimpArgs false
set_option maxRecDepth 100000
abbrev e0(N:List Int)(q:Nat):Int:=if N.getD 0 0%256>q then 0 else N.getD 0 0%256
abbrev e1(N:List Int):Int:=N.getD 1 0%4
abbrev e2(N:List Int):Int:=if N.getD 2 0%8>4 then 0 else N.getD 2 0%8
abbrev e3(N:List Int):Int:=N.getD 3 0%4
abbrev e4(N:List Int):Int:=N.getD 4 0%16
abbrev e5(N:List Int):Int:=N.getD 5 0%64
abbrev e6(N:List Int):Int:=N.getD 6 0%256
abbrev e7(N:List Int):Int:=N.getD 7 0%2
abbrev e8(N:List Int):Int:=N.getD 8 0%2
abbrev e9(N:List Int):Int:=N.getD 9 0%2
theorem QxP(N:List Int)(q:Nat):dN N q=[e0 N q,e1 N,e2 N,e3 N,e4 N,e5 N,e6 N,e7 N,e8 N,e9 N]:=rfl
theorem eR(N:List Int)(q:Nat):(0≤e0 N q∧e0 N q<256)∧(0≤e1 N∧e1 N<4)∧(0≤e2 N∧e2 N≤4)∧(0≤e3 N∧e3 N<4)∧(0≤e4 N∧e4 N<16)∧(0≤e5 N∧e5 N<64)∧(0≤e6 N∧e6 N<256)∧(0≤e7 N∧e7 N<2)∧(0≤e8 N∧e8 N<2)∧(0≤e9 N∧e9 N<2):=by
 unfold e0 e1 e2 e3 e4 e5 e6 e7 e8 e9;refine⟨?_,?_,?_,?_,?_,?_,?_,?_,?_,?_⟩
 ·split<;>omega
 ·omega
 ·split<;>omega
 all_goals omega
theorem Qo8{m m':List Int}(h:m=m'):AV.agg [.own 0,.ro (.int .u8) m]=AV.agg [.own 0,.ro (.int .u8) m']:=by rw[h]
def QtD:PSpec:=⟨[gC,gD],fun(c,d,_)=>(some (c.2.1=8∧List.length d.2≤140737488355328),.agg [.own 0,.ro (.int .u8) (dM d.2)],[.arr (.int .i64) (dN d.1 (qF d.2))])⟩
def Qri:PSpec:=⟨[gC,gD],fun(c,d,_)=>(some (c.2.1=8∧List.length d.2≤140737488355328∧qF d.2=0),.agg [.own 0,.ro (.int .u8) []],[.arr (.int .i64) (dN d.1 (qF d.2))])⟩
theorem QlY:G0 58 Qri.spec :=
 QR.map QhY fun(c,d,_) w=>⟨w,rfl,fun E v h=>h.nil_ro⟩
def Qjq:PSpec:=⟨[gC,gD],fun(c,d,_)=>(some (c.2.1=8∧List.length d.2≤140737488355328∧0<qF d.2),.agg [.own 0,.ro (.int .u8) (dM d.2)],[.arr (.int .i64) (dN d.1 (qF d.2))])⟩
theorem QlZ:G0 58 Qjq.spec:=by
 have p:S0 _:=Qa QcT (Qb (T:=tree));have t:=tabs p Qc;refine Qjq.gd t p Tryz.func58 fun(c:Cv) (d:Dv) w=>?_
 obtain⟨cn,S,cb,cs,cd⟩:=c;obtain⟨N,M⟩:=d;obtain⟨rfl,A,h0⟩:S=8∧M.length≤140737488355328∧0<qF M:=w _ rfl;have F:=QlQ M A;have V:=Qnq M
 have U:over (List.replicate (i64.wrap (i64.wrap (Int.tdiv (M.length:Int) 256)*256)).toNat 0) M 0=dM M:=by
  rw[F];exact QfB M V
 repeat' first|(apply Ea;conv=>whnf)|apply Eb|apply Ec|apply Ed|apply Ee|(apply Ei;intro _)|apply Ef t p
 all_goals first
  |exact Qkj
  |exact Ya rfl
  |skip
 all_goals first
  |(exfalso;rename_i h;have h:¬i64.wrap (i64.wrap (Int.tdiv (M.length:Int) 256)*256)>0:=h;rw[F] at h;omega)
  |(have e:ty5.bytes=1:=rfl
    rw[e,show(List.length (N,M).2)=M.length from rfl,F];omega)
  |(rename_i G D h
    have G:i64.wrap (N.getD 0 0%256*256)>i64.wrap (i64.wrap (Int.tdiv (M.length:Int) 256)*256):=G;have D:N.getD 2 0%8>4:=D;rw[F,w64 (by omega) (by omega)] at G;refine .mk [6] [5] _ R R R R R (Ql (l:=dL N 0 0) (l':=dN N (qF M)) ?_) (Qo8 U)
    rw[QeI,Yf (by omega),Yf D];rfl)
  |(rename_i G D h
    have G:i64.wrap (N.getD 0 0%256*256)>i64.wrap (i64.wrap (Int.tdiv (M.length:Int) 256)*256):=G;have D:¬N.getD 2 0%8>4:=D;rw[F,w64 (by omega) (by omega)] at G;refine .mk [6] [5] _ R R R R R (Ql (l:=dL N 0 (N.getD 2 0%8)) (l':=dN N (qF M)) ?_) (Qo8 U)
    rw[QeI,Yf (by omega),Yb D];rfl)
  |(rename_i G D h
    have G:¬i64.wrap (N.getD 0 0%256*256)>i64.wrap (i64.wrap (Int.tdiv (M.length:Int) 256)*256):=G;have D:N.getD 2 0%8>4:=D;rw[F,w64 (by omega) (by omega)] at G;refine .mk [6] [5] _ R R R R R (Ql (l:=dL N (N.getD 0 0%256) 0) (l':=dN N (qF M)) ?_) (Qo8 U)
    rw[QeI,Yb (by omega),Yf D];rfl)
  |(rename_i G D h
    have G:¬i64.wrap (N.getD 0 0%256*256)>i64.wrap (i64.wrap (Int.tdiv (M.length:Int) 256)*256):=G;have D:¬N.getD 2 0%8>4:=D;rw[F,w64 (by omega) (by omega)] at G;refine .mk [6] [5] _ R R R R R (Ql (l:=dL N (N.getD 0 0%256) (N.getD 2 0%8)) (l':=dN N (qF M)) ?_) (Qo8 U)
    rw[QeI,Yb (by omega),Yb D];rfl)
theorem Qh2:G0 58 QtD.spec:=by
 refine QR.cases QlY QlZ fun(c,d,_) w=>?_
 obtain⟨P,A⟩:c.2.1=8∧List.length d.2≤140737488355328:=w _ rfl;by_cases h:qF d.2=0
 ·left;refine⟨fun q F=>?_,?_⟩
  ·injection F with F
   subst F;exact⟨P,A,h⟩
  ·have:dM d.2=[]:=by unfold dM;rw[h];rfl
   show(AV.agg [.own 0,.ro (.int .u8) []],_)=(AV.agg [.own 0,.ro (.int .u8) (dM d.2)],_)
   rw[this]
 ·right;refine⟨fun q F=>?_,rfl⟩;injection F with F
  subst F;exact⟨P,A,Nat.pos_of_ne_zero h⟩
theorem QxQ(b:Bool)(f o:Int)(z:Bool)(h7:0≤f∧f<2)(h8:0≤o∧o<2):lor .i64 (lor .i64 (lor .i64 (QdS b) (shl .i64 f 1)) (shl .i64 o 2)) (8*QdS z)=QdS b+2*f+4*o+8*QdS z:=by
 have a1:f=0∨f=1:=by omega
 have a2:o=0∨o=1:=by omega
 rcases a1 with rfl|rfl<;>rcases a2 with rfl|rfl<;>cases b<;>cases z<;>decide +kernel
theorem Qkm(b:Bool):0≤QdS b∧QdS b≤1:=by cases b<;>decide
theorem Qkn{x:Int}(h:0≤x):imin 1 x=QdS (decide (x>0)):=by
 rw[QS];by_cases hx:x>0
 ·rw[Yl hx];show min 1 x=1;omega
 ·rw[Yn hx];show min 1 x=0;omega
def drF(N:List Int)(q:Nat)(a:Int):Int:=Qb0 [QdS (decide (e2 N>0))+2*e7 N+4*e8 N+8*QdS (decide (e0 N q=0)),e6 N,e1 N,e9 N] a
def drN(N:List Int)(q:Nat)(a:Int):List Int:=[e0 N q,e1 N,e2 N,e3 N,e4 N,e5 N,e6 N,if a=1∧¬e2 N=4 then 0 else e7 N,if a=0 then 0 else e8 N,e9 N]
def QAR:PSpec:=⟨[gD,gi],fun(d,a,_)=>(some (List.length d.2≤140737488355328),.tup [.agg [.own 0,.own 1],I1 (drF d.1 (qF d.2) a)],[.arr (.int .i64) (drN d.1 (qF d.2) a),.arr (.int .u8) (dM d.2)])⟩
theorem QxR:G0 178 QAR.spec:=by
 have p:S0 _:=Qa Qe3 (Qa QCJ (Qb (T:=tree)));have t:=tabs p Qc;refine QAR.gd t p Tryz.func178 fun(d:Dv) (a:Int) w=>?_
 obtain⟨N,M⟩:=d;have A:M.length≤140737488355328:=w _ rfl;obtain⟨r0,r1,r2,r3,r4,r5,r6,r7,r8,r9⟩:=eR N (qF M);have K:=QxQ (decide (e2 N>0)) (e7 N) (e8 N) (decide (e0 N (qF M)=0)) r7 r8;rw[←Qkn r2.1] at K
 repeat' first|(apply Ea;conv=>whnf)|apply Eb|apply Ec|apply Ed|apply Ee|(apply Ei;intro _)|apply Ef t p
 all_goals(try subst_vars)
 all_goals first
  |exact rfl
  |exact A
  |exact Ya rfl
  |exact .k [] [2,3] _ R R
  |skip
 ·rename_i h;have h:e0 N (qF M)=0:=h;refine .k [] [2,3] _ rfl (Qd6 ?_);show lor .i64 (lor .i64 (lor .i64 (imin 1 (e2 N)) (shl .i64 (e7 N) 1)) (shl .i64 (e8 N) 2)) 8=QdS (decide (e2 N>0))+2*e7 N+4*e8 N+8*QdS (decide (e0 N (qF M)=0));rw[←Qkn r2.1];rw[Yl h] at K ⊢;exact K
 ·rename_i h;have h:¬e0 N (qF M)=0:=h;refine .k [] [2,3] _ rfl (Qd6 ?_);show lor .i64 (lor .i64 (lor .i64 (imin 1 (e2 N)) (shl .i64 (e7 N) 1)) (shl .i64 (e8 N) 2)) 0=QdS (decide (e2 N>0))+2*e7 N+4*e8 N+8*QdS (decide (e0 N (qF M)=0));rw[←Qkn r2.1];rw[Yn h] at K ⊢;exact K
 ·rename_i h _;have h:(e2 N != 4)=true:=h;have h:¬e2 N=4:=by simpa using h
  refine .mk [] [2,3] _ R R R R R (Qu (l:=[e0 N (qF M),e1 N,e2 N,e3 N,e4 N,e5 N,e6 N,0,e8 N,e9 N]) (l':=drN N (qF M) 1) ?_ rfl) rfl;rw[drN,Yf ⟨rfl,h⟩];rfl
 ·rename_i h _;have h:(e2 N != 4)=false:=h;have h:e2 N=4:=by simpa using h
  refine .mk [] [2,3] _ R R R R R (Qu (l:=dN N (qF M)) (l':=drN N (qF M) 1) ?_ rfl) rfl;rw[QxP,drN,Yb (fun z=>z.2 h)];rfl
 ·rename_i L r g j
  have e:drF N (qF M) a=0:=QhU fun i hi=>by
   have:i<4:=hi;omega
  refine .mk [] [2,3] _ R R R R R (Qu (l:=dN N (qF M)) (l':=drN N (qF M) a) ?_ rfl) (Qd6 e.symm);rw[QxP,drN,Yb (fun z=>r z.1),Yb L]
def Qb1(n:List Int)(k:Int):List Int :=
 if n.getD 2 0>0∨k%16=0∨k%16>4∨(k%16>2∧n.getD 0 0=0) then n
 else ((((n.set 2 (k%16)).set 3 (k/16%4)).set 4 0).set 5 30).set 7 (QdS (decide (k%16=4)))
theorem Ql0(n:List Int)(i:Nat)(x y:Int):(n.set i x).set i y=n.set i y:=by simp
theorem QxS{k:Int}(h:0≤k∧k<256):land .i64 k 15=k%16∧land .i64 (shr .i64 k 4) 3=k/16%4:=by
 have all:∀n,n<256→land .i64 ((n:Nat):Int) 15=((n:Nat):Int)%16∧land .i64 (shr .i64 ((n:Nat):Int) 4) 3=((n:Nat):Int)/16%4:=by decide +kernel
 obtain⟨n,rfl⟩:=Yz h.1;exact all n (by omega)
theorem QcM{n:List Int}{k:Int}(h:n.getD 2 0>0∨k%16=0∨k%16>4∨(k%16>2∧n.getD 0 0=0)):Qb1 n k=n:=by rw[Qb1,Yf h]
theorem Qdb{n:List Int}{k:Int}(h:¬(n.getD 2 0>0∨k%16=0∨k%16>4∨(k%16>2∧n.getD 0 0=0))):Qb1 n k=((((n.set 2 (k%16)).set 3 (k/16%4)).set 4 0).set 5 30).set 7 (QdS (decide (k%16=4))):=by rw[Qb1,Yb h]
theorem QLz(n:List Int)(k:Int):(n.set 6 k).getD 2 0=n.getD 2 0:=by simp[Yd]
def QtE:WSpec:=⟨List Int×Int,fun x=>[.c (.own 0),I1 x.2],fun x=>[.arr (.int .i64) x.1],fun a b=>(match a,b with| [.c (.own 0),.c (.imm (.int .i64 k))],[.arr (.int .i64) n]=>some (n,k)|_,_=>none),
 fun x=>(some (x.1.length=10∧0≤x.1.getD 2 0∧0≤x.2∧x.2<256),.tup [],[some (.arr (.int .i64) (Qb1 x.1 x.2))],[])⟩
theorem QxT:G0 238 QtE.spec:=by
 have p:S0 _:=(Qb (T:=tree))
 have t:=tabs p Qc;refine QtE.gd t p Tryz.func238 ?_ fun((n,k):List Int×Int) w=>?_
 ·intro a b x h;simp only[QtE] at h;split at h
  ·injection h with h;subst h;exact⟨rfl,rfl⟩
  ·cases h
 obtain⟨A,D,P⟩:n.length=10∧0≤n.getD 2 0∧0≤k∧k<256:=w _ rfl;obtain⟨b1,b2⟩:=QxS P
 repeat' first|(apply Ea;conv=>whnf)|apply Eb|apply Ec|apply Ed|apply Ee|(apply Ei;intro _)|apply Ef t p
 all_goals first
  |(dsimp only at *;simp only[YH,A];decide)
  |skip
 ·rename_i g;have g:n.getD 2 0>0:=g;refine .mk [] [0] _ R R R R R (Ql (l:=n) (l':=Qb1 n k) ?_) rfl;exact(QcM (.inl g)).symm
 ·rename_i g j;have g:¬n.getD 2 0>0:=g;have j:land .i64 k 15<1:=j;rw[b1] at j;refine .mk [] [0] _ R R R R R (Ql (l:=n) (l':=Qb1 n k) ?_) rfl;exact(QcM (by omega)).symm
 ·rename_i g j s;have g:¬n.getD 2 0>0:=g;have j:¬land .i64 k 15<1:=j;rw[b1] at j;have s:land .i64 k 15>4:=s;rw[b1] at s;refine .mk [] [0] _ R R R R R (Ql (l:=n) (l':=Qb1 n k) ?_) rfl;exact(QcM (by omega)).symm
 ·rename_i g j s u J;have g:¬n.getD 2 0>0:=g;have j:¬land .i64 k 15<1:=j;rw[b1] at j;have s:¬land .i64 k 15>4:=s;rw[b1] at s;have u:land .i64 k 15≥3:=u;rw[b1] at u;have J:n.getD 0 0=0:=J;refine .mk [] [0] _ R R R R R (Ql (l:=n) (l':=Qb1 n k) ?_) rfl;exact(QcM (by omega)).symm
 ·decide
 ·rename_i g j s u J C;have g:¬n.getD 2 0>0:=g;have j:¬land .i64 k 15<1:=j;rw[b1] at j;have s:¬land .i64 k 15>4:=s;rw[b1] at s;have u:land .i64 k 15≥3:=u;rw[b1] at u;have J:¬n.getD 0 0=0:=J;have C:land .i64 k 15=4:=C;rw[b1] at C;refine .mk [] [0] _ R R R R R (Ql (l:=((((((n.set 2 (land .i64 k 15)).set 3 (land .i64 (shr .i64 k 4) 3)).set 4 0).set 5 30)).set 7 0).set 7 1) (l':=Qb1 n k) ?_) rfl;rw[Qdb (by omega),b1,b2,Yl C,Ql0];rfl
 ·rename_i g j s u J C;have g:¬n.getD 2 0>0:=g;have j:¬land .i64 k 15<1:=j;rw[b1] at j;have s:¬land .i64 k 15>4:=s;rw[b1] at s;have u:land .i64 k 15≥3:=u;rw[b1] at u;have J:¬n.getD 0 0=0:=J;have C:¬land .i64 k 15=4:=C;rw[b1] at C;refine .mk [] [0] _ R R R R R (Ql (l:=(((((n.set 2 (land .i64 k 15)).set 3 (land .i64 (shr .i64 k 4) 3)).set 4 0).set 5 30)).set 7 0) (l':=Qb1 n k) ?_) rfl;rw[Qdb (by omega),b1,b2,Yn C];rfl
 ·decide
 ·rename_i g j s u C;have g:¬n.getD 2 0>0:=g;have j:¬land .i64 k 15<1:=j;rw[b1] at j;have s:¬land .i64 k 15>4:=s;rw[b1] at s;have u:¬land .i64 k 15≥3:=u;rw[b1] at u;have C:land .i64 k 15=4:=C;rw[b1] at C;refine .mk [] [0] _ R R R R R (Ql (l:=((((((n.set 2 (land .i64 k 15)).set 3 (land .i64 (shr .i64 k 4) 3)).set 4 0).set 5 30)).set 7 0).set 7 1) (l':=Qb1 n k) ?_) rfl;rw[Qdb (by omega),b1,b2,Yl C,Ql0];rfl
 ·rename_i g j s u C;have g:¬n.getD 2 0>0:=g;have j:¬land .i64 k 15<1:=j;rw[b1] at j;have s:¬land .i64 k 15>4:=s;rw[b1] at s;have u:¬land .i64 k 15≥3:=u;rw[b1] at u;have C:¬land .i64 k 15=4:=C;rw[b1] at C;refine .mk [] [0] _ R R R R R (Ql (l:=(((((n.set 2 (land .i64 k 15)).set 3 (land .i64 (shr .i64 k 4) 3)).set 4 0).set 5 30)).set 7 0) (l':=Qb1 n k) ?_) rfl;rw[Qdb (by omega),b1,b2,Yn C];rfl
def Qac(n:List Int)(a k:Int):List Int :=
 if a=0 then Qb1 n k else if a=1 then (if n.getD 2 0=4 then (n.set 6 k).set 7 0 else n.set 6 k) else if a=3 then n.set 9 (k%2) else n
def Qko:WSpec:=⟨List Int×Int×Int,fun x=>[.c (.own 0),I1 x.2.1,I1 x.2.2],fun x=>[.arr (.int .i64) x.1],fun a b=>(match a,b with| [.c (.own 0),.c (.imm (.int .i64 a)),.c (.imm (.int .i64 k))],[.arr (.int .i64) n]=>some (n,a,k)|_,_=>none),
 fun x=>(some (x.1.length=10∧0≤x.1.getD 2 0∧0≤x.2.2∧x.2.2<256),.tup [],[some (.arr (.int .i64) (Qac x.1 x.2.1 x.2.2))],[])⟩
theorem Qrj:G0 143 Qko.spec:=by
 have p:S0 _:=Qa Qnp (Qb (T:=tree));have t:=tabs p Qc;refine Qko.gd t p Tryz.func143 ?_ fun((n,a,k):List Int×Int×Int) w=>?_
 ·intro a b x h;simp only[Qko] at h;split at h
  ·injection h with h;subst h;exact⟨rfl,rfl⟩
  ·cases h
 obtain⟨A,D,P⟩:n.length=10∧0≤n.getD 2 0∧0≤k∧k<256:=w _ rfl;have H:Int.tmod k 16=k%16:=Yi P.1
 have hd:Int.tmod (i64.wrap (Int.tdiv k 16)) 4=k/16%4:=by
  rw[Yp P.1,w64 (by omega) (by omega),Yi (by omega)]
 repeat' first|(apply Ea;conv=>whnf)|apply Eb|apply Ec|apply Ed|apply Ee|(apply Ei;intro _)|apply Ef t p
 all_goals first
  |(dsimp only at *;simp only[YH,A];decide)
  |skip
 all_goals try decide
 ·rename_i r g;have r:a=0:=r;subst r;have g:(n.getD 2 0 != 0)=true:=g;have g:¬n.getD 2 0=0:=by simpa using g
  refine .mk [] [0] _ R R R R R (Ql (l:=n) (l':=Qac n 0 k) ?_) rfl;exact(QcM (by omega)).symm
 ·rename_i r g j;have r:a=0:=r;subst r;have g:(n.getD 2 0 != 0)=false:=g;have g:n.getD 2 0=0:=by simpa using g
  have j:Int.tmod k 16=0:=j;rw[H] at j;refine .mk [] [0] _ R R R R R (Ql (l:=n) (l':=Qac n 0 k) ?_) rfl;exact(QcM (by omega)).symm
 ·rename_i r g j s;have r:a=0:=r;subst r;have g:(n.getD 2 0 != 0)=false:=g;have g:n.getD 2 0=0:=by simpa using g
  have j:¬Int.tmod k 16=0:=j;rw[H] at j;have s:Int.tmod k 16>4:=s;rw[H] at s;refine .mk [] [0] _ R R R R R (Ql (l:=n) (l':=Qac n 0 k) ?_) rfl;exact(QcM (by omega)).symm
 ·rename_i r g j s u J;have r:a=0:=r;subst r;have g:(n.getD 2 0 != 0)=false:=g;have g:n.getD 2 0=0:=by simpa using g
  have j:¬Int.tmod k 16=0:=j;rw[H] at j;have s:¬Int.tmod k 16>4:=s;rw[H] at s;have u:Int.tmod k 16>2:=u;rw[H] at u;have J:n.getD 0 0=0:=J;refine .mk [] [0] _ R R R R R (Ql (l:=n) (l':=Qac n 0 k) ?_) rfl;exact(QcM (by omega)).symm
 ·rename_i r g j s u J;have r:a=0:=r;subst r;have g:(n.getD 2 0 != 0)=false:=g;have g:n.getD 2 0=0:=by simpa using g
  have j:¬Int.tmod k 16=0:=j;rw[H] at j;have s:¬Int.tmod k 16>4:=s;rw[H] at s;have u:Int.tmod k 16>2:=u;rw[H] at u;have J:¬n.getD 0 0=0:=J;refine .mk [] [0] _ R R R R R (Ql (l:=((((n.set 2 (Int.tmod k 16)).set 3 (Int.tmod (i64.wrap (Int.tdiv k 16)) 4)).set 4 0).set 5 30).set 7 (QdS (Int.tmod k 16==4))) (l':=Qac n 0 k) ?_) rfl;show _=Qb1 n k;rw[Qdb (by omega),H,hd];rfl
 ·rename_i r g j s u;have r:a=0:=r;subst r;have g:(n.getD 2 0 != 0)=false:=g;have g:n.getD 2 0=0:=by simpa using g
  have j:¬Int.tmod k 16=0:=j;rw[H] at j;have s:¬Int.tmod k 16>4:=s;rw[H] at s;have u:¬Int.tmod k 16>2:=u;rw[H] at u;refine .mk [] [0] _ R R R R R (Ql (l:=((((n.set 2 (Int.tmod k 16)).set 3 (Int.tmod (i64.wrap (Int.tdiv k 16)) 4)).set 4 0).set 5 30).set 7 (QdS (Int.tmod k 16==4))) (l':=Qac n 0 k) ?_) rfl;show _=Qb1 n k;rw[Qdb (by omega),H,hd];rfl
 ·rename_i L r g;have r:a=1:=r;subst r;have g:(n.set 6 k).getD 2 0=4:=g;rw[QLz] at g;refine .mk [] [0] _ R R R R R (Ql (l:=(n.set 6 k).set 7 0) (l':=Qac n 1 k) ?_) rfl;rw[Qac,Yb (by omega),Yf rfl,Yf g]
 ·rename_i L r g;have r:a=1:=r;subst r;have g:¬(n.set 6 k).getD 2 0=4:=g;rw[QLz] at g;refine .mk [] [0] _ R R R R R (Ql (l:=n.set 6 k) (l':=Qac n 1 k) ?_) rfl;rw[Qac,Yb (by omega),Yf rfl,Yb g]
 ·rename_i L r g;have g:a=3:=g;subst g;refine .mk [] [0] _ R R R R R (Ql (l:=n.set 9 (Int.tmod k 2)) (l':=Qac n 3 k) ?_) rfl;rw[Qac,Yb (by omega),Yb (by omega),Yf rfl,Yi P.1]
 ·rename_i L r g;have L:¬a=0:=L;have r:¬a=1:=r;have g:¬a=3:=g;refine .mk [] [0] _ R R R R R (Ql (l:=n) (l':=Qac n a k) ?_) rfl;rw[Qac,Yb L,Yb r,Yb g]
def dwN(N:List Int)(q:Nat)(a k:Int):List Int:=Qac (dN N q) a (k%256)
def QtF:PSpec:=⟨[gD,gi,gi],fun(d,a,k,_)=>(some (List.length d.2≤140737488355328),.agg [.own 0,.own 1],[.arr (.int .i64) (dwN d.1 (qF d.2) a k),.arr (.int .u8) (dM d.2)])⟩
theorem QtG:G0 185 QtF.spec:=by
 have p:S0 _:=Qa Qe3 (Qa QxT (Qa QU (Qb (T:=tree))));have t:=tabs p Qc;refine QtF.gd t p Tryz.func185 fun(d:Dv) (a k:Int) w=>?_
 obtain⟨N,M⟩:=d;have A:M.length≤140737488355328:=w _ rfl;obtain⟨r0,r1,r2,r3,r4,r5,r6,r7,r8,r9⟩:=eR N (qF M)
 repeat' first|(apply Ea;conv=>whnf)|apply Eb|apply Ec|apply Ed|apply Ee|(apply Ei;intro _)|apply Ef t p
 all_goals(try subst_vars)
 all_goals first
  |exact rfl
  |exact A
  |exact Ya rfl
  |exact .k [] [2,3] _ R R
  |skip
 ·refine⟨rfl,r2.1,?_,?_⟩
  ·exact(by omega:0≤k%256)
  ·exact(by omega:k%256<256)
 ·rename_i h _;have h:(dN N (qF M)).getD 2 0=4:=h;refine .mk [] [2,3] _ R R R R R (Qu (l:=((dN N (qF M)).set 6 (k%256)).set 7 0) (l':=dwN N (qF M) 1 k) ?_ rfl) rfl;rw[dwN,Qac,Yb (by omega),Yf rfl,Yf h]
 ·rename_i h _;have h:¬(dN N (qF M)).getD 2 0=4:=h;refine .mk [] [2,3] _ R R R R R (Qu (l:=(dN N (qF M)).set 6 (k%256)) (l':=dwN N (qF M) 1 k) ?_ rfl) rfl;rw[dwN,Qac,Yb (by omega),Yf rfl,Yb h]
 ·refine .mk [] [2,3] _ R R R R R (Qu (l:=(dN N (qF M)).set 9 (k%2 ^ (1:Int).toNat)) (l':=dwN N (qF M) 3 k) ?_ rfl) rfl;rw[dwN,Qac,Yb (by omega),Yb (by omega),Yf rfl];have e:k%256%2=k%2:=by omega
  rw[e];rfl
 ·rename_i L r g;refine .mk [] [2,3] _ R R R R R (Qu (l:=dN N (qF M)) (l':=dwN N (qF M) a k) ?_ rfl) rfl;rw[dwN,Qac,Yb L,Yb r,Yb g]
def dcN(N:List Int)(q:Nat)(k:Int):List Int:=if e2 N=0 then [if k>0∧k≤q then k%256 else 0,e1 N,e2 N,e3 N,e4 N,e5 N,e6 N,e7 N,e8 N,e9 N] else dN N q
def Qo9:PSpec:=⟨[gD,gi],fun(d,k,_)=>(some (List.length d.2≤140737488355328),.agg [.own 0,.own 1],[.arr (.int .i64) (dcN d.1 (qF d.2) k),.arr (.int .u8) (dM d.2)])⟩
theorem Qrk:G0 243 Qo9.spec:=by
 have p:S0 _:=Qa Qe3 (Qb (T:=tree));have t:=tabs p Qc;refine Qo9.gd t p Tryz.func243 fun(d:Dv) (k:Int) w=>?_
 obtain⟨N,M⟩:=d;have A:M.length≤140737488355328:=w _ rfl
 have Q:i64.wrap (Int.tdiv ((dM M).length:Int) 256)=((qF M:Nat):Int):=by
  have:=Qnq M;rw[QhX,Yp (by omega),w64 (by omega) (by omega)];omega
 repeat' first|(apply Ea;conv=>whnf)|apply Eb|apply Ec|apply Ed|apply Ee|(apply Ei;intro _)|apply Ef t p
 all_goals first
  |exact rfl
  |exact A
  |exact Ya rfl
  |skip
 ·rename_i h O B;have h:e2 N=0:=h;have B:k≤i64.wrap (Int.tdiv ((dM M).length:Int) 256):=B;rw[Q] at B;refine .mk [] [2,3] _ R R R R R (Qu (l:=[Int.tmod k 256,e1 N,e2 N,e3 N,e4 N,e5 N,e6 N,e7 N,e8 N,e9 N]) (l':=dcN N (qF M) k) ?_ rfl) rfl;rw[dcN,Yf h,Yf ⟨O,B⟩,Yi (by omega)]
 ·rename_i h O B;have h:e2 N=0:=h;have B:¬k≤i64.wrap (Int.tdiv ((dM M).length:Int) 256):=B;rw[Q] at B;refine .mk [] [2,3] _ R R R R R (Qu (l:=[0,e1 N,e2 N,e3 N,e4 N,e5 N,e6 N,e7 N,e8 N,e9 N]) (l':=dcN N (qF M) k) ?_ rfl) rfl;rw[dcN,Yf h,Yb (fun z=>B z.2)]
 ·rename_i h O;have h:e2 N=0:=h;refine .mk [] [2,3] _ R R R R R (Qu (l:=[0,e1 N,e2 N,e3 N,e4 N,e5 N,e6 N,e7 N,e8 N,e9 N]) (l':=dcN N (qF M) k) ?_ rfl) rfl;rw[dcN,Yf h,Yb (fun z=>O z.1)]
 ·rename_i h;have h:¬e2 N=0:=h;refine .mk [] [2,3] _ R R R R R (Qu (l:=dN N (qF M)) (l':=dcN N (qF M) k) ?_ rfl) rfl;rw[dcN,Yb h]
def QCQ(N:List Int):Bool:=decide (e9 N=1)&&decide (e7 N=1)
def QFJ:PSpec:=⟨[gD],fun(d,_)=>(some (List.length d.2≤140737488355328),.cell (bv (QCQ d.1)),[])⟩
theorem QCR:G0 127 QFJ.spec:=by
 have p:S0 _:=Qa Qe3 (Qb (T:=tree));have t:=tabs p Qc;refine QFJ.gd t p Tryz.func127 fun(d:Dv) w=>?_
 obtain⟨N,M⟩:=d;have A:M.length≤140737488355328:=w _ rfl
 repeat' first|(apply Ea;conv=>whnf)|apply Eb|apply Ec|apply Ed|apply Ee|(apply Ei;intro _)|apply Ef t p
 all_goals first
  |exact A
  |exact Ya rfl
  |(rename_i h
    have h:e9 N=1:=h;refine .k [] [] _ rfl (Qj ?_);show decide (e7 N=1)=(decide (e9 N=1)&&decide (e7 N=1))
    rw[Yl h];rfl)
  |(rename_i h
    have h:¬e9 N=1:=h;refine .k [] [] _ rfl (Qj ?_);show _=(decide (e9 N=1)&&decide (e7 N=1))
    rw[Yn h];rfl)
def QFK:PSpec:=⟨[gC,gD],fun(c,d,_)=>(some (c.2.1=8∧List.length d.2≤140737488355328),.cell (bv (QCQ d.1)),[])⟩
theorem QCS:G0 16 QFK.spec:=by
 have p:S0 _:=Qa Qh2 (Qb (T:=tree));have t:=tabs p Qc;refine QFK.gd t p Tryz.func16 fun(c:Cv) (d:Dv) w=>?_
 obtain⟨cn,S,cb,cs,cd⟩:=c;obtain⟨N,M⟩:=d;obtain⟨rfl,A⟩:S=8∧M.length≤140737488355328:=w _ rfl;obtain⟨r0,r1,r2,r3,r4,r5,r6,r7,r8,r9⟩:=eR N (qF M)
 repeat' first|(apply Ea;conv=>whnf)|apply Eb|apply Ec|apply Ed|apply Ee|(apply Ei;intro _)|apply Ef t p
 all_goals first
  |exact⟨rfl,A⟩
  |exact Ya rfl
  |(refine .k [] [] _ rfl (Qj ?_)
    show(i64.wrap (e9 N*e7 N)==1)=(decide (e9 N=1)&&decide (e7 N=1))
    have a1:e9 N=0∨e9 N=1:=by omega
    have a2:e7 N=0∨e7 N=1:=by omega
    rcases a1 with a1|a1<;>rcases a2 with a2|a2<;>rw[a1,a2]<;>decide +kernel)
def QFL:PSpec:=⟨[gD],fun(d,_)=>(some (List.length d.2≤140737488355328),I (e1 d.1),[])⟩
theorem QCT:G0 219 QFL.spec:=by
 have p:S0 _:=Qa Qe3 (Qb (T:=tree));have t:=tabs p Qc;refine QFL.gd t p Tryz.func219 fun(d:Dv) w=>?_
 obtain⟨N,M⟩:=d;have A:M.length≤140737488355328:=w _ rfl
 repeat' first|(apply Ea;conv=>whnf)|apply Eb|apply Ec|apply Ed|apply Ee|(apply Ei;intro _)|apply Ef t p
 all_goals first
  |exact A
  |exact Ya rfl
  |exact .k [] [] _ R R
def QtH:PSpec:=⟨[gC,gD],fun(c,d,_)=>(some (c.2.1=8∧List.length d.2≤140737488355328),I (e1 d.1),[])⟩
theorem QtI:G0 72 QtH.spec:=by
 have p:S0 _:=Qa Qh2 (Qb (T:=tree));have t:=tabs p Qc;refine QtH.gd t p Tryz.func72 fun(c:Cv) (d:Dv) w=>?_
 obtain⟨cn,S,cb,cs,cd⟩:=c;obtain⟨N,M⟩:=d;obtain⟨rfl,A⟩:S=8∧M.length≤140737488355328:=w _ rfl
 repeat' first|(apply Ea;conv=>whnf)|apply Eb|apply Ec|apply Ed|apply Ee|(apply Ei;intro _)|apply Ef t p
 all_goals first
  |exact⟨rfl,A⟩
  |exact Ya rfl
  |exact .k [] [] _ R R
def QgR(N:List Int):Int:=if e2 N=0 then 100000 else max 1 (e5 N)-1
def QAS:PSpec:=⟨[gD],fun(d,_)=>(some (List.length d.2≤140737488355328),I (QgR d.1),[])⟩
theorem QxU:G0 153 QAS.spec:=by
 have p:S0 _:=Qa Qe3 (Qb (T:=tree));have t:=tabs p Qc;refine QAS.gd t p Tryz.func153 fun(d:Dv) w=>?_
 obtain⟨N,M⟩:=d;have A:M.length≤140737488355328:=w _ rfl;obtain⟨r0,r1,r2,r3,r4,r5,r6,r7,r8,r9⟩:=eR N (qF M)
 repeat' first|(apply Ea;conv=>whnf)|apply Eb|apply Ec|apply Ed|apply Ee|(apply Ei;intro _)|apply Ef t p
 all_goals first
  |exact A
  |exact Ya rfl
  |(rename_i h
    have h:e2 N=0:=h;refine .k [] [] _ rfl (Qd ?_);show _=QgR N
    rw[QgR,Yf h])
  |(rename_i h
    have h:¬e2 N=0:=h;refine .k [] [] _ rfl (Qd ?_);show i64.wrap (imax 1 (e5 N)-1)=QgR N
    rw[QgR,Yb h,Q8,w64 (by omega) (by omega)])
def QaC(N:List Int):List Int:=[N.getD 0 0%256,N.getD 1 0%256,N.getD 2 0%256]
def Qpi:PSpec:=⟨[gC,gD],fun(c,d,_)=>(some (c.2.1=4),Qff,[.arr (.int .i64) (QaC d.1)])⟩
theorem Qdc:G0 58 Qpi.spec:=by
 have b:S0 _:=Qa QcT (Qb (T:=tree));have f:=tabs b Qc;refine Qpi.gd f b Tryz.func58 fun(c:Cv) (d:Dv) g=>?_
 obtain⟨q,h,s,cs,r⟩:=c;obtain rfl:h=4:=g _ rfl;obtain⟨N,M⟩:=d
 repeat' first|(apply Ea;conv=>whnf)|apply Eb|apply Ec|apply Ed|apply Ee|(apply Ei;intro _)|apply Ef f b|apply Eg f b
 ·exact(by decide:([256,256,256]:List Int).length≤1000∧∀m∈([256,256,256]:List Int),0<m∧m≤4611686018427387904)
 ·exact .k [] [5] _ R R
def QFU:PSpec:=⟨[],fun _=>(none,Qff,[.arr (.int .i64) [255,0,0]])⟩
theorem QC1:G0 111 QFU.spec:=by
 have b:S0 _:=(Qb (T:=tree))
 have f:=tabs b Qc;refine QFU.gd f b Tryz.func111 fun _=>?_
 repeat' first|(apply Ea;conv=>whnf)|apply Eb|apply Ec|apply Ed|apply Ee|(apply Ei;intro _)|apply Ef f b|apply Eg f b
 exact .k [] [1] _ R R
def QA1:PSpec:=⟨[gD],fun(d,_)=>(none,.cell (.own 0),[.arr (.int .i64) (QaC d.1)])⟩
theorem Qhb:G0 227 QA1.spec:=by
 have b:S0 _:=Qa QU (Qb (T:=tree));have f:=tabs b Qc;refine QA1.gd f b Tryz.func227 fun(d:Dv) _=>?_
 obtain⟨N,M⟩:=d
 repeat' first|(apply Ea;conv=>whnf)|apply Eb|apply Ec|apply Ed|apply Ee|(apply Ei;intro _)|apply Ef f b|apply Eg f b
 ·exact Ya rfl
 refine QP 4 ?_
 repeat' first|(apply Ea;conv=>whnf)|apply Eb|apply Ec|apply Ed|apply Ee|(apply Ei;intro _)|apply Ef f b|apply Eg f b
 all_goals first
  |exact Ya rfl
  |exact .k [] [1] _ R R
def QFV:PSpec:=⟨[gD],fun(d,_)=>(none,I (land .i64 (d.1.getD 1 0%256) (d.1.getD 2 0%256)),[])⟩
theorem QC2:G0 215 QFV.spec:=by
 have b:S0 _:=Qa Qhb (Qb (T:=tree));have f:=tabs b Qc;refine QFV.gd f b Tryz.func215 fun(d:Dv) _=>?_
 obtain⟨N,M⟩:=d
 repeat' first|(apply Ea;conv=>whnf)|apply Eb|apply Ec|apply Ed|apply Ee|(apply Ei;intro _)|apply Ef f b|apply Eg f b
 all_goals first
  |exact Ya rfl
  |exact .k [] [] _ R R
def QtW:PSpec:=⟨[gC,gD],fun(c,d,_)=>(some (c.2.1=4),I (land .i64 (d.1.getD 1 0%256) (d.1.getD 2 0%256)),[])⟩
theorem QtX:G0 72 QtW.spec:=by
 have b:S0 _:=Qa Qdc (Qb (T:=tree));have f:=tabs b Qc;refine QtW.gd f b Tryz.func72 fun(c:Cv) (d:Dv) g=>?_
 obtain⟨q,h,s,cs,r⟩:=c;obtain rfl:h=4:=g _ rfl;obtain⟨N,M⟩:=d
 repeat' first|(apply Ea;conv=>whnf)|apply Eb|apply Ec|apply Ed|apply Ee|(apply Ei;intro _)|apply Ef f b|apply Eg f b
 all_goals first
  |exact rfl
  |exact Ya rfl
  |exact .k [] [] _ R R
def Qx1(N:List Int)(k:Int):List Int:=[k%256,N.getD 1 0%256,N.getD 2 0%256]
def QLB:PSpec:=⟨[gD,gi],fun(d,k,_)=>(none,Qff,[.arr (.int .i64) (Qx1 d.1 k)])⟩
theorem QFW:G0 157 QLB.spec:=by
 have b:S0 _:=Qa Qhb (Qa QU (Qb (T:=tree)));have f:=tabs b Qc;refine QLB.gd f b Tryz.func157 fun(d:Dv) (k:Int) _=>?_
 obtain⟨N,M⟩:=d
 repeat' first|(apply Ea;conv=>whnf)|apply Eb|apply Ec|apply Ed|apply Ee|(apply Ei;intro _)|apply Ef f b|apply Eg f b
 all_goals first
  |exact Ya rfl
  |exact .k [] [2] _ R R
def QtY:PSpec:=⟨[gC,gD,gi],fun(c,d,k,_)=>(some (c.2.1=4),Qff,[.arr (.int .i64) (Qx1 d.1 k)])⟩
theorem QtZ:G0 73 QtY.spec:=by
 have b:S0 _:=Qa Qdc (Qa QbC (Qb (T:=tree)));have f:=tabs b Qc;refine QtY.gd f b Tryz.func73 fun(c:Cv) (d:Dv) (k:Int) g=>?_
 obtain⟨q,h,s,cs,r⟩:=c;obtain rfl:h=4:=g _ rfl;obtain⟨N,M⟩:=d
 repeat' first|(apply Ea;conv=>whnf)|apply Eb|apply Ec|apply Ed|apply Ee|(apply Ei;intro _)|apply Ef f b|apply Eg f b
 all_goals first
  |exact rfl
  |exact Ya rfl
  |exact .k [] [3] _ R R
def pwN(N:List Int)(at_ k:Int):List Int:=[N.getD 0 0%256,if at_=0 then k%256 else N.getD 1 0%256,if at_=1 then k%256 else N.getD 2 0%256]
def Qt0:PSpec:=⟨[gD,gi,gi],fun(d,at_,k,_)=>(none,Qff,[.arr (.int .i64) (pwN d.1 at_ k)])⟩
theorem Qt1:G0 181 Qt0.spec:=by
 have b:S0 _:=Qa Qhb (Qa QU (Qb (T:=tree)));have f:=tabs b Qc;refine Qt0.gd f b Tryz.func181 fun(d:Dv) (a k:Int) _=>?_
 obtain⟨N,M⟩:=d
 repeat' first|(apply Ea;conv=>whnf)|apply Eb|apply Ec|apply Ed|apply Ee|(apply Ei;intro _)|apply Ef f b|apply Eg f b
 all_goals(try subst_vars)
 all_goals first
  |exact Ya rfl
  |exact .k [] [2] _ R R
  |skip
 rename_i u t;refine .mk [] [2] _ R R R R R ?_ rfl;show[some (Blk.arr (.int .i64) (QaC N))]=[some (Blk.arr (.int .i64) (pwN N a k))]
 simp only[pwN,Yb u,Yb t];rfl
def Qpj:PSpec:=⟨[gC,gD,gi,gi],fun(c,d,at_,k,_)=>(some (c.2.1=4),Qff,[.arr (.int .i64) (pwN d.1 at_ k)])⟩
theorem Qrn:G0 77 Qpj.spec:=by
 have b:S0 _:=Qa Qdc (Qa QbC (Qb (T:=tree)));have f:=tabs b Qc;refine Qpj.gd f b Tryz.func77 fun(c:Cv) (d:Dv) (a k:Int) g=>?_
 obtain⟨q,h,s,cs,r⟩:=c;obtain rfl:h=4:=g _ rfl;obtain⟨N,M⟩:=d
 repeat' first|(apply Ea;conv=>whnf)|apply Eb|apply Ec|apply Ed|apply Ee|(apply Ei;intro _)|apply Ef f b|apply Eg f b
 all_goals(try subst_vars)
 all_goals first
  |exact rfl
  |exact Ya rfl
  |exact .k [] [3] _ R R
  |skip
 rename_i u t;refine .mk [] [3] _ R R R R R ?_ rfl;show[some (Blk.arr (.int .i64) (QaC N))]=[some (Blk.arr (.int .i64) (pwN N a k))]
 simp only[pwN,Yb u,Yb t];rfl
def Qro(N:List Int):Int:=lor .i64 (land .i64 (N.getD 1 0%256) (N.getD 2 0%256)) (Q6 .i64 (N.getD 0 0%256) (N.getD 2 0%256))
def QfG(N:List Int)(a:Int):Int:=Qb0 [Qro N,N.getD 2 0%256] a
def QA2:PSpec:=⟨[gD,gi],fun(d,a,_)=>(none,.tup [.agg [.own 0,.imm (.slice none 0 0)],I1 (QfG d.1 a)],[.arr (.int .i64) (QaC d.1)])⟩
theorem Qx2:G0 174 QA2.spec:=by
 have b:S0 _:=Qa Qhb (Qb (T:=tree));have f:=tabs b Qc;refine QA2.gd f b Tryz.func174 fun(d:Dv) (a:Int) _=>?_
 obtain⟨N,M⟩:=d
 repeat' first|(apply Ea;conv=>whnf)|apply Eb|apply Ec|apply Ed|apply Ee|(apply Ei;intro _)|apply Ef f b|apply Eg f b
 all_goals(try subst_vars)
 all_goals first
  |exact Ya rfl
  |exact .k [] [2] _ R R
  |skip
 rename_i u t
 have e:QfG N a=0:=QhU fun i n=>by
  have:i<2:=n;omega
 refine .k [] [2] _ rfl ?_;show AV.tup [.agg [.own 0,.imm (.slice none 0 0)],I1 0]=AV.tup [.agg [.own 0,.imm (.slice none 0 0)],I1 (QfG N a)];rw[e]
theorem QA3(N:List Int)(k:Nat)(p:k≤62):0≤land .i64 (shr .i64 (N.getD 2 0%256) k) 1∧land .i64 (shr .i64 (N.getD 2 0%256) k) 1<3:=by
 obtain⟨m,hm⟩:=Yz (show 0≤N.getD 2 0%256 by omega);rw[hm,QtV (by omega) p];omega
def Qpk:PSpec:=⟨[gC,gD,gi],fun(c,d,a,_)=>(some (c.2.1=4),.tup [.agg [.own 0,.imm (.slice none 0 0)],I1 (QfG d.1 a)],[.arr (.int .i64) (QaC d.1)])⟩
theorem Qrp:G0 76 Qpk.spec:=by
 have b:S0 _:=Qa Qdc (Qa Qgq (Qb (T:=tree)));have f:=tabs b Qc;refine Qpk.gd f b Tryz.func76 fun(c:Cv) (d:Dv) (a:Int) g=>?_
 obtain⟨q,h,s,cs,r⟩:=c;obtain rfl:h=4:=g _ rfl;obtain⟨N,M⟩:=d
 repeat' first|(apply Ea;conv=>whnf)|apply Eb|apply Ec|apply Ed|apply Ee|(apply Ei;intro _)|apply Ef f b|apply Eg f b
 ·exact rfl
 have w:∀j:Nat,0≤N.getD j 0%256∧N.getD j 0%256<256:=fun j=>by omega
 refine Q4 f b (X:=Int×Int) (fun(i,o)=>St.mk (E3 ((.cell (.ptr 0 0))::(.cell (.ptr 1 0))::(.cell (.ptr 2 0))::(.cell (.ptr 3 0))::E1 ((.cell (.own 4))::(.cell (.fn 142 [2]))::E3 ((I o)::E40 (E40 (E3 (E1 ((I i)::E40 (E40 (E40 (E40 (E10 (E5 (E3 (E1 [])))))))))))))))
  [some (.var [.imm (.string q),iv .i64 4,iv .i64 s,iv .i64 cs,.ro (.int .u8) r]),some (.var [.own 4,.imm (.slice none 0 0)]),some (.var [iv .i64 a]),some (.var [.imm (.slice none 0 0),.imm (.slice none 0 0)]),some (.arr (.int .i64) (QaC N))])
  (fun(i,o)=>∃k:Nat,i=k∧k≤8∧o=Ql8 (QaC N) (N.getD 2 0%256) k) (fun(i,_)=>(8-i).toNat) (0,0) (Le.k [] [0,1,2,3,4] ?_) ?_ fun(i,o) n=>?_
 rotate_right
 repeat' first|(apply Ea;conv=>whnf)|apply Eb|apply Ec|apply Ed|apply Ee|(apply Ei;intro _)|apply Ef f b|apply Eg f b
 rotate_right 2
 ·repeat' constructor
 ·exact⟨0,rfl,by omega,rfl⟩
 all_goals first
  |exact Ya rfl
  |(obtain⟨k,rfl,p,rfl⟩:=n;omega)
  |(obtain⟨k,rfl,p,rfl⟩:=n
    have e:=QA3 N k (by omega)
    exact⟨e.1,e.2⟩)
  |(obtain⟨k,rfl,p,rfl⟩:=n
    have e:=QA3 N k (by omega)
    exact(by omega:(land .i64 (shr .i64 (N.getD 2 0%256) k) 1).toNat<3))
  |skip
 ·obtain⟨k,rfl,p,rfl⟩:=n;have e:i64.wrap ((k:Int)+1)=((k+1:Nat):Int):=by rw[w64 (by omega) (by omega)];omega
  apply Yw (_,_);refine Yo ?_ (Yo ?_ (Le.k [] [0,1,2,3,4] ?hh))
  case hh=>repeat' constructor
  ·exact⟨k+1,e,by omega,rfl⟩
  ·show(8-i64.wrap ((k:Int)+1)).toNat<(8-(k:Int)).toNat;rw[e];omega
 ·obtain⟨k,rfl,p,rfl⟩:=n;refine .k [] [4] _ rfl ?_;show AV.tup [.agg [.own 0,.imm (.slice none 0 0)],I1 (Qb0 [Ql8 (QaC N) (N.getD 2 0%256) k,N.getD 2 0%256] a)]=AV.tup [.agg [.own 0,.imm (.slice none 0 0)],I1 (Qb0 [Qro N,N.getD 2 0%256] a)];have e:k=8:=by omega
  subst e;have e2:Ql8 (QaC N) (N.getD 2 0%256) 8=Qro N:=QC0 _ _ _ (w 0) (w 1) (w 2);rw[e2]
theorem Qbl{l l':List Int}(h:l=l'):[some (Blk.arr (.int .i64) l)]=[some (Blk.arr (.int .i64) l')]:=by rw[h]
abbrev tA(N:List Int):Int:=N.getD 0 0%65536
abbrev tB(N:List Int):Int:=N.getD 1 0%65536
abbrev tC(N:List Int):Int:=N.getD 2 0%8
abbrev tF(N:List Int):Int:=N.getD 3 0%2
theorem tR(N:List Int):(0≤tA N∧tA N<65536)∧(0≤tB N∧tB N<65536)∧(0≤tC N∧tC N<8)∧(0≤tF N∧tF N<2):=by
 unfold tA tB tC tF;omega
theorem Qb6(N:List Int):Qbk N=[tA N,tB N,tC N,tF N]:=rfl
def Qpm:PSpec:=⟨[gC,gD],fun(c,d,_)=>(some (c.2.1=3),Qff,[.arr (.int .i64) (Qbk d.1)])⟩
theorem Qdd:G0 58 Qpm.spec:=by
 have b:S0 _:=Qa QcT (Qb (T:=tree));have g:=tabs b Qc;refine Qpm.gd g b Tryz.func58 fun(c:Cv) (d:Dv) i=>?_
 obtain⟨cn,p,cb,cs,cd⟩:=c;obtain rfl:p=3:=i _ rfl;obtain⟨N,M⟩:=d
 repeat' first|(apply Ea;conv=>whnf)|apply Eb|apply Ec|apply Ed|apply Ee|(apply Ei;intro _)|apply Ef g b
 ·exact(by decide:([65536,65536,8,2]:List Int).length≤1000∧∀m∈([65536,65536,8,2]:List Int),0<m∧m≤4611686018427387904)
 ·exact .k [] [5] _ R R
def QFY:PSpec:=⟨[gD],fun(d,_)=>(none,.cell (.own 0),[.arr (.int .i64) (Qbk d.1)])⟩
theorem Qia:G0 202 QFY.spec:=by
 have b:S0 _:=Qa QU (Qb (T:=tree));have g:=tabs b Qc;refine QFY.gd g b Tryz.func202 fun(d:Dv) _=>?_
 obtain⟨N,M⟩:=d
 repeat' first|(apply Ea;conv=>whnf)|apply Eb|apply Ec|apply Ed|apply Ee|(apply Ei;intro _)|apply Ef g b
 all_goals first
  |exact Ya rfl
  |exact .k [] [1] _ R R
def QFZ:PSpec:=⟨[],fun _=>(none,Qff,[.arr (.int .i64) [0,0,0,0]])⟩
theorem QC4:G0 110 QFZ.spec:=by
 have b:S0 _:=(Qb (T:=tree))
 have g:=tabs b Qc;refine QFZ.gd g b Tryz.func110 fun _=>?_
 repeat' first|(apply Ea;conv=>whnf)|apply Eb|apply Ec|apply Ed|apply Ee|(apply Ei;intro _)|apply Ef g b
 all_goals first
  |exact Ya rfl
  |exact .k [] [1] _ R R
def Qt4:PSpec:=⟨[gC,gD],fun(c,d,_)=>(some (c.2.1=3),Qff,[.arr (.int .i64) (QaJ (Qbk d.1))])⟩
theorem Qt5:G0 79 Qt4.spec:=by
 have b:S0 _:=Qa Qdd (Qb (T:=tree));have g:=tabs b Qc;refine Qt4.gd g b Tryz.func79 fun(c:Cv) (d:Dv) i=>?_
 obtain⟨cn,p,cb,cs,cd⟩:=c;obtain rfl:p=3:=i _ rfl;obtain⟨N,M⟩:=d;obtain⟨rA,rB,rC,rF⟩:=tR N
 repeat' first|(apply Ea;conv=>whnf)|apply Eb|apply Ec|apply Ed|apply Ee|(apply Ei;intro _)|apply Ef g b
 all_goals first
  |exact rfl
  |exact Ya rfl
  |skip
 ·rename_i h;have h:Int.tmod (tC N) 2=0:=h;refine .mk [] [3] _ R R R R R (Qbl (l:=Qbk N) ?_) rfl;rw[Qb6,QaJ,Yf];rw[Yi (by omega)] at h;exact h
 ·rename_i h a;have h:¬Int.tmod (tC N) 2=0:=h;have a:tA N>0:=a;rw[Yi (by omega)] at h;refine .mk [] [3] _ R R R R R (Qbl (l:=[i64.wrap (tA N-1),tB N,tC N,tF N]) ?_) rfl;show _=QaJ (Qbk N);rw[Qb6,QaJ,Yb h,Yf a,w64 (by omega) (by omega)]
 ·rename_i h a f;have h:¬Int.tmod (tC N) 2=0:=h;have a:¬tA N>0:=a;have f:Int.tmod (i64.wrap (Int.tdiv (tC N) 2)) 2=1:=f;rw[Yi (by omega)] at h;rw[Yp (by omega),w64 (by omega) (by omega),Yi (by omega)] at f;refine .mk [] [3] _ R R R R R (Qbl (l:=[tB N,tB N,tC N,1]) ?_) rfl;show _=QaJ (Qbk N);rw[Qb6,QaJ,Yb h,Yb a,Yf f]
 ·rename_i h a f;have h:¬Int.tmod (tC N) 2=0:=h;have a:¬tA N>0:=a;have f:¬Int.tmod (i64.wrap (Int.tdiv (tC N) 2)) 2=1:=f;rw[Yi (by omega)] at h;rw[Yp (by omega),w64 (by omega) (by omega),Yi (by omega)] at f;refine .mk [] [3] _ R R R R R (Qbl (l:=[tA N,tB N,i64.wrap (tC N-1),1]) ?_) rfl;show _=QaJ (Qbk N);rw[Qb6,QaJ,Yb h,Yb a,Yb f,w64 (x:=tC N-1) (by omega) (by omega)]
def QA4:PSpec:=⟨[gD,gi],fun(d,k,_)=>(some (k≤4611686018427387904),Qff,[.arr (.int .i64) (Qa1 k.toNat (Qbk d.1))])⟩
theorem Qx4:G0 156 QA4.spec:=by
 have b:S0 _:=Qa Qia (Qb (T:=tree));have g:=tabs b Qc;refine QA4.gd g b Tryz.func156 fun(d:Dv) (k:Int) i=>?_
 have i:k≤4611686018427387904:=i _ rfl;obtain⟨N,M⟩:=d;obtain⟨rA,rB,rC,rF⟩:=tR N
 repeat' first|(apply Ea;conv=>whnf)|apply Eb|apply Ec|apply Ed|apply Ee|(apply Ei;intro _)|apply Ef g b
 all_goals first
  |exact rfl
  |exact Ya rfl
  |skip
 all_goals obtain⟨c1,c2,c4,c3⟩:=ctl (c:=tC N) (by omega) (by omega)
 ·rename_i h;refine .mk [] [2] _ R R R R R (Qbl (l:=Qbk N) ?_) rfl;show _=Qa1 k.toNat (Qbk N);have:k.toNat=0:=by omega
  rw[this];rfl
 ·rename_i n h;have h:land .i64 (tC N) 1=0:=h;refine .mk [] [2] _ R R R R R (Qbl (l:=Qbk N) ?_) rfl;show _=Qa1 k.toNat (Qbk N);rw[h] at c1;rw[Qb6,Qt2 (Ya c1.symm)]
 ·rename_i n h a;have h:¬land .i64 (tC N) 1=0:=h;have a:k≤tA N:=a
  have j:¬tC N%2=0:=by
   intro e;rw[Yl e] at c1;exact h (by simpa using c1)
  refine .mk [] [2] _ R R R R R (Qbl (l:=[i64.wrap (tA N-k),tB N,tC N,tF N]) ?_) rfl;show _=Qa1 k.toNat (Qbk N);rw[Qb6,Qpl j _ _ (by omega),w64 (by omega) (by omega)];have:((k.toNat:Nat):Int)=k:=by omega
  rw[this]
 ·show i64.wrap (tB N+1)≠0;rw[w64 (by omega) (by omega)];omega
 ·rename_i n h a f;have h:¬land .i64 (tC N) 1=0:=h;have a:¬k≤tA N:=a;have f:(land .i64 (tC N) 2 != 0)=true:=f
  have j:¬tC N%2=0:=by
   intro e;rw[Yl e] at c1;exact h (by simpa using c1)
  rw[f] at c2;refine .mk [] [2] _ R R R R R (Qbl (l:=[i64.wrap (tB N-Int.tmod (i64.wrap (i64.wrap (k-tA N)-1)) (i64.wrap (tB N+1))),tB N,tC N,1]) ?_) rfl;show _=Qa1 k.toNat (Qbk N);rw[Qb6,Qx3 j (Ya c2.symm) (by omega) (by omega) _ (by omega)];have e:((k.toNat:Nat):Int)=k:=by omega
  rw[e,w64 (x:=k-tA N) (by omega) (by omega),w64 (x:=k-tA N-1) (by omega) (by omega),w64 (x:=tB N+1) (by omega) (by omega),Yi (by omega)];have h5:=Int.emod_nonneg (k-tA N-1) (show tB N+1≠0 by omega);have h6:=Int.emod_lt_of_pos (k-tA N-1) (show 0<tB N+1 by omega);rw[w64 (by omega) (by omega)]
 ·rename_i n h a f;have h:¬land .i64 (tC N) 1=0:=h;have a:¬k≤tA N:=a;have f:(land .i64 (tC N) 2 != 0)=false:=f
  have j:¬tC N%2=0:=by
   intro e;rw[Yl e] at c1;exact h (by simpa using c1)
  rw[f] at c2;refine .mk [] [2] _ R R R R R (Qbl (l:=[0,tB N,Q6 .i64 (tC N) 1,1]) ?_) rfl;show _=Qa1 k.toNat (Qbk N);rw[Qb6,QC3 j (of_decide_eq_false c2.symm) (by omega) _ (by omega),c3 j]
set_option linter.constructorNameAsVariable false
theorem QK1{k:Int}(h:k<0∨k>24)(g:¬k<0)(g2:¬k>24):False:=by omega
def QI(d:Int):PSpec:=⟨[QzN],fun(s,_)=>(some (s.1=d),I (Q3 s),[])⟩
def QvY:PSpec:=⟨[QzN],fun(s,_)=>(some (s.1<0∨s.1>24),I (Q3 s),[])⟩
theorem Qdl:∀{u:Ty} {x:Den u},u.flat=true→QD u x x=true
 |.int _,x,_=>by simp[QD]
 |.ints _ _,x,_=>by simp[QD]
 |.bool,x,_=>by simp[QD]
 |.str,x,_=>by simp[QD,Qm]
 |.sl _,_,h=>by cases h
 |.pair a b,x,h=>by
  simp only[Ty.flat,Yj] at h;simp only[QD,Qdl h.1,Qdl h.2,Bool.and_self]
def QHn:PSpec:=⟨[gK],fun(k,_)=>(none,.agg [.run .i64 9 k.1,iv .i64 k.2.1,iv .i64 k.2.2.1,bv true],[])⟩
theorem QD8:G0 205 QHn.spec:=by
 have c:S0 _:=(Qb (T:=tree))
 have hT:=tabs c Qc;refine QHn.gd hT c Tryz.func205 fun(k:Kor) _=>?_
 obtain⟨r,op,at_,n⟩:=k
 repeat' first|(apply Ea;conv=>whnf)|apply Eb|apply Ec|apply Ed|apply Ee|(apply Ei;intro _)|apply Ef hT c
 all_goals first
  |exact Ya rfl
  |exact .k [] [] _ R R
end Go.Proofs.YtofgbclopbmlcaaGreat

