/- Part 13 of the proof. Conditions: none. -/
import Derived.Test.YtofgbclopbmlcaaGreatG10
import Derived.Test.YtofgbclopbmlcaaGreatG11
import Derived.Laws.Bits64
namespace Go.Proofs.YtofgbclopbmlcaaGreat
open Go.IntKind (i64)
open Go.Fw
set_option linter.unusedVariables false
set_option linter.unusedSimpArgs false
set_option maxRecDepth 100000
theorem QfB(M:List Int){n:Nat}(h:n≤M.length):over (List.replicate n 0) M 0=M.take n:=by
 rw[QeZ];simp[h]
def qF(M:List Int):Nat:=M.length/256
def dM(M:List Int):List Int:=M.take (qF M*256)
theorem Qnq(M:List Int):qF M*256≤M.length:=by unfold qF;omega
theorem QhX(M:List Int):(dM M).length=qF M*256:=by
 unfold dM;rw[Yq];have:=Qnq M;omega
theorem QlQ(M:List Int)(h:M.length≤140737488355328):i64.wrap (i64.wrap (Int.tdiv (M.length:Int) 256)*256)=((qF M*256:Nat):Int):=by
 rw[Yp (by omega),w64 (x:=(M.length:Int)/256) (by omega) (by omega),w64 (by omega) (by omega)];unfold qF;omega
def dN(N:List Int)(q:Nat):List Int :=
 [if N.getD 0 0%256>q then 0 else N.getD 0 0%256,N.getD 1 0%4,if N.getD 2 0%8>4 then 0 else N.getD 2 0%8,N.getD 3 0%4,N.getD 4 0%16,N.getD 5 0%64,N.getD 6 0%256,N.getD 7 0%2,N.getD 8 0%2,N.getD 9 0%2]
theorem Qd6{x y:Int}(h:x=y):AV.tup [.agg [.own 0,.own 1],I1 x]=AV.tup [.agg [.own 0,.own 1],I1 y]:=by rw[h]
theorem Qu{l l' m m':List Int}(h:l=l')(f:m=m'):[some (Blk.arr (.int .i64) l),some (Blk.arr (.int .u8) m)]=[some (Blk.arr (.int .i64) l'),some (Blk.arr (.int .u8) m')]:=by rw[h,f]
theorem Qo2(N:List Int):∀(l:List Int) (i k:Nat),k<l.length→(over l N i).getD k 0=N.getD (i+k) (l.getD k 0)
 |d::l,i,0,_=>by simp[over]
 |d::l,i,k+1,h=>by
  have:=Qo2 N l (i+1) k (by simpa using h);have e:i+1+k=i+(k+1):=by omega
  rw[e] at this;simpa[over] using this
theorem QCH(n k:Nat):(List.replicate n (0:Int)).getD k 0=0:=by
 rw[Yd,List.getElem?_replicate];split<;>rfl
def dL(N:List Int)(x y:Int):List Int:=[x,N.getD 1 0%4,y,N.getD 3 0%4,N.getD 4 0%16,N.getD 5 0%64,N.getD 6 0%256,N.getD 7 0%2,N.getD 8 0%2,N.getD 9 0%2]
def Qi0(N C ms:List Int)(k:Nat):List Int:=QeH N (ms.take k) 0++C.drop k
theorem QlR(N C ms:List Int){k:Nat}(h:k≤ms.length)(hc:C.length=ms.length):(Qi0 N C ms k).length=ms.length:=by
 simp[Qi0,Qcr];omega
theorem Qtq(N C ms:List Int){k:Nat}(h:k<ms.length)(hc:C.length=ms.length):(Qi0 N C ms k).getD k 0=C.getD k 0:=by
 have B:(QeH N (ms.take k) 0).length=k:=by rw[Qcr,Yq];omega
 unfold Qi0;rw[Yd,YO (by omega),B,Jk,List.getElem?_drop,Yd];rfl
theorem Qtr(N C ms:List Int){k:Nat}(h:k<ms.length)(hc:C.length=ms.length):(Qi0 N C ms k).set k (N.getD k 0%ms.getD k 0)=Qi0 N C ms (k+1):=by
 have B:(QeH N (ms.take k) 0).length=k:=by rw[Qcr,Yq];omega
 unfold Qi0;rw[Jq,Yb (by omega),B,Jk,YJ (by omega),Ji,Qgp N ms 0 k h];simp
def Qrc:List Int:=[256,4,8,4,16,64,256,2,2,2]
def QxI:List Int:=[8,2,3,2,4,6,8,1,1,1]
theorem Qo3:∀k,k<10→(0≤QxI.getD k 0∧QxI.getD k 0≤62)∧(2:Int) ^ (QxI.getD k 0).toNat=Qrc.getD k 0:=by decide +kernel
theorem QeI(N:List Int)(q:Nat):dN N q=[if N.getD 0 0%256>q then 0 else N.getD 0 0%256,N.getD 1 0%4,if N.getD 2 0%8>4 then 0 else N.getD 2 0%8,N.getD 3 0%4,N.getD 4 0%16,N.getD 5 0%64,N.getD 6 0%256,N.getD 7 0%2,N.getD 8 0%2,N.getD 9 0%2]:=rfl
def QFB:PSpec:=⟨[gD],fun(d,_)=>(some (List.length d.2≤140737488355328),.tup [.c (.own 0),.c (.own 1)],[.arr (.int .i64) (dN d.1 (qF d.2)),.arr (.int .u8) (dM d.2)])⟩
theorem Qe3:G0 204 QFB.spec:=by
 have g:S0 _:=Qa QU (Qb (T:=tree));have p:=tabs g Qc;refine QFB.gd p g Tryz.func204 fun(d:Dv) s=>?_
 obtain⟨N,M⟩:=d;have s:M.length≤140737488355328:=s _ rfl;have j:=QlQ M s;have t:=Qnq M
 have u:i64.wrap (Int.tdiv ((dM M).length:Int) 256)=((qF M:Nat):Int):=by
  rw[QhX,Yp (by omega),w64 (by omega) (by omega)];omega
 repeat' first|(apply Ea;conv=>whnf)|apply Eb|apply Ec|apply Ed|apply Ee|(apply Ei;intro _)|apply Ef p g
 ·exact Ya rfl
 have hC:∀k,k<10→(over (List.replicate 10 0) N 0).getD k 0=N.getD k 0:=by
  intro k z;rw[Qo2 N _ 0 k (by simpa using z),Jh,QCH 10 k]
 have A:(over (List.replicate 10 0) N 0).length=10:=by rw[Qco];rfl
 refine Q4 p g (X:=Int×List Int) (fun(i,n)=>St.mk (E1 ((.cell (.ptr 0 0))::E2 ((.cell (.own 1))::E5 (E3 ((.agg [.run .i64 10 [8,2,3,2,4,6,8,1,1,1]])::(I i)::E40 []))))) [some (.var [.ro (.int .i64) N,.ro (.int .u8) M]),some (.arr (.int .i64) n)])
  (fun(i,n)=>∃k:Nat,i=k∧k≤10∧n=Qi0 N (over (List.replicate 10 0) N 0) Qrc k) (fun(i,_)=>(10-i).toNat) (0,over (List.replicate 10 0) N 0) (Le.k [] [0,1] ?_) ?_ fun(i,n) D=>?_
 rotate_right
 repeat' first|(apply Ea;conv=>whnf)|apply Eb|apply Ec|apply Ed|apply Ee|(apply Ei;intro _)|apply Ef p g
 rotate_right 2
 ·repeat' constructor
 ·exact⟨0,rfl,by omega,rfl⟩
 all_goals first
  |exact Ya rfl
  |(obtain⟨k,rfl,z,rfl⟩:=D;omega)
  |(obtain⟨k,rfl,z,rfl⟩:=D;rw[QlR _ _ _ z A];show _∧_<((10:Nat):Int);omega)
  |(obtain⟨k,rfl,z,rfl⟩:=D;rw[QlR _ _ _ z A];show _<10;omega)
  |skip
 ·obtain⟨k,rfl,z,rfl⟩:=D;exact(Qo3 k (by omega)).1
 ·obtain⟨k,rfl,z,rfl⟩:=D;have e:i64.wrap ((k:Int)+1)=((k+1:Nat):Int):=by rw[w64 (by omega) (by omega)];omega
  have w:k<10:=by omega
  apply Yw (_,_);refine Yo ?_ (Yo ?_ (Le.k [] [0,1] ?hh))
  case hh=>repeat' constructor
  ·refine⟨k+1,e,by omega,?_⟩;show(Qi0 N (over (List.replicate 10 0) N 0) Qrc k).set k ((Qi0 N (over (List.replicate 10 0) N 0) Qrc k).getD k 0%2 ^ (QxI.getD k 0).toNat)=_;rw[Qtq N _ Qrc w A,hC k w,(Qo3 k w).2];exact Qtr N _ Qrc w A
  ·show(10-i64.wrap ((k:Int)+1)).toNat<(10-(k:Int)).toNat;rw[e];omega
 all_goals
  obtain⟨k,rfl,z,rfl⟩:=D;obtain rfl:k=10:=by omega
  have r:over (List.replicate (i64.wrap (i64.wrap (Int.tdiv (M.length:Int) 256)*256)).toNat 0) M 0=dM M:=by
   rw[j];exact QfB M t
  try exact Ya rfl
 ·have e:ty5.bytes=1:=rfl;rw[e,show(List.length (N,M).2)=M.length from rfl,j];omega
 ·rename_i a f;have a:N.getD 0 0%256>i64.wrap (Int.tdiv ((over (List.replicate (i64.wrap (i64.wrap (Int.tdiv (M.length:Int) 256)*256)).toNat 0) M 0).length:Int) 256):=a;have f:N.getD 2 0%8>4:=f;rw[r,u] at a;refine .mk [] [1,2] _ R R R R R (Qu (l:=dL N 0 0) (l':=dN N (qF M)) ?_ r) rfl;rw[QeI,Yf a,Yf f];rfl
 ·rename_i a f;have a:N.getD 0 0%256>i64.wrap (Int.tdiv ((over (List.replicate (i64.wrap (i64.wrap (Int.tdiv (M.length:Int) 256)*256)).toNat 0) M 0).length:Int) 256):=a;have f:¬N.getD 2 0%8>4:=f;rw[r,u] at a;refine .mk [] [1,2] _ R R R R R (Qu (l:=dL N 0 (N.getD 2 0%8)) (l':=dN N (qF M)) ?_ r) rfl;rw[QeI,Yf a,Yb f];rfl
 ·rename_i a f;have a:¬N.getD 0 0%256>i64.wrap (Int.tdiv ((over (List.replicate (i64.wrap (i64.wrap (Int.tdiv (M.length:Int) 256)*256)).toNat 0) M 0).length:Int) 256):=a;have f:N.getD 2 0%8>4:=f;rw[r,u] at a;refine .mk [] [1,2] _ R R R R R (Qu (l:=dL N (N.getD 0 0%256) 0) (l':=dN N (qF M)) ?_ r) rfl;rw[QeI,Yb a,Yf f];rfl
 ·rename_i a f;have a:¬N.getD 0 0%256>i64.wrap (Int.tdiv ((over (List.replicate (i64.wrap (i64.wrap (Int.tdiv (M.length:Int) 256)*256)).toNat 0) M 0).length:Int) 256):=a;have f:¬N.getD 2 0%8>4:=f;rw[r,u] at a;refine .mk [] [1,2] _ R R R R R (Qu (l:=dL N (N.getD 0 0%256) (N.getD 2 0%8)) (l':=dN N (qF M)) ?_ r) rfl;rw[QeI,Yb a,Yb f];rfl
def QFC:PSpec:=⟨[gb],fun(b,_)=>(some (List.length b≤140737488355328),.agg [.own 0,.own 1],[.arr (.int .i64) [0,0,0,0,0,0,0,0,0,0],.arr (.int .u8) (dM b)])⟩
theorem QCI:G0 115 QFC.spec:=by
 have g:S0 _:=(Qb (T:=tree))
 have p:=tabs g Qc;refine QFC.gd p g Tryz.func115 fun(M:List Int) s=>?_
 have s:M.length≤140737488355328:=s _ rfl;have j:=QlQ M s;have t:=Qnq M
 repeat' first|(apply Ea;conv=>whnf)|apply Eb|apply Ec|apply Ed|apply Ee|(apply Ei;intro _)|apply Ef p g
 all_goals first
  |exact Ya rfl
  |skip
 ·have e:ty5.bytes=1:=rfl;rw[e,j];omega
 ·have r:over (List.replicate (i64.wrap (i64.wrap (Int.tdiv (M.length:Int) 256)*256)).toNat 0) M 0=dM M:=by
   rw[j];exact QfB M t
  exact .mk [] [2,1] _ R R R R R (Qu (l:=[0,0,0,0,0,0,0,0,0,0]) rfl r) rfl
def QFD:PSpec:=⟨[gl],fun(n,_)=>(some (2<List.length n),I (imin 1 (List.getD n 2 0)),[])⟩
theorem QCJ:G0 236 QFD.spec:=by
 have g:S0 _:=(Qb (T:=tree))
 have p:=tabs g Qc;refine QFD.gd p g Tryz.func236 fun(n:List Int) s=>?_
 have s:2<n.length:=s _ rfl
 repeat' first|(apply Ea;conv=>whnf)|apply Eb|apply Ec|apply Ed|apply Ee|(apply Ei;intro _)|apply Ef p g
 ·omega
 ·exact .k [] [] _ R R
theorem Qkj:([256,4,8,4,16,64,256,2,2,2]:List Int).length≤1000∧∀m∈([256,4,8,4,16,64,256,2,2,2]:List Int),0<m∧m≤4611686018427387904:=by decide
def QlS:PSpec:=⟨[gC,gD],fun(c,d,_)=>(some (c.2.1=8∧List.length d.2≤140737488355328∧qF d.2=0),.agg [.own 0,.imm (.slice none 0 0)],[.arr (.int .i64) (dN d.1 (qF d.2))])⟩
theorem QhY:G0 58 QlS.spec:=by
 have g:S0 _:=Qa QcT (Qb (T:=tree));have p:=tabs g Qc;refine QlS.gd p g Tryz.func58 fun(c:Cv) (d:Dv) s=>?_
 obtain⟨cn,E,cb,cs,cd⟩:=c;obtain⟨N,M⟩:=d;obtain⟨rfl,B,h0⟩:E=8∧M.length≤140737488355328∧qF M=0:=s _ rfl;have j:=QlQ M B;rw[h0] at j
 repeat' first|(apply Ea;conv=>whnf)|apply Eb|apply Ec|apply Ed|apply Ee|(apply Ei;intro _)|apply Ef p g
 all_goals first
  |exact Qkj
  |exact Ya rfl
  |skip
 all_goals first
  |(exfalso;rename_i h;have h:i64.wrap (i64.wrap (Int.tdiv (M.length:Int) 256)*256)>0:=h;rw[j] at h;omega)
  |(rename_i a f h
    have a:i64.wrap (N.getD 0 0%256*256)>i64.wrap (i64.wrap (Int.tdiv (M.length:Int) 256)*256):=a;have f:N.getD 2 0%8>4:=f;rw[j,w64 (by omega) (by omega)] at a;refine .mk [] [5] _ R R R R R (Ql (l:=dL N 0 0) (l':=dN N (qF M)) ?_) rfl
    rw[QeI,Yf (by omega),Yf f];rfl)
  |(rename_i a f h
    have a:i64.wrap (N.getD 0 0%256*256)>i64.wrap (i64.wrap (Int.tdiv (M.length:Int) 256)*256):=a;have f:¬N.getD 2 0%8>4:=f;rw[j,w64 (by omega) (by omega)] at a;refine .mk [] [5] _ R R R R R (Ql (l:=dL N 0 (N.getD 2 0%8)) (l':=dN N (qF M)) ?_) rfl
    rw[QeI,Yf (by omega),Yb f];rfl)
  |(rename_i a f h
    have a:¬i64.wrap (N.getD 0 0%256*256)>i64.wrap (i64.wrap (Int.tdiv (M.length:Int) 256)*256):=a;have f:N.getD 2 0%8>4:=f;rw[j,w64 (by omega) (by omega)] at a;refine .mk [] [5] _ R R R R R (Ql (l:=dL N (N.getD 0 0%256) 0) (l':=dN N (qF M)) ?_) rfl
    rw[QeI,Yb (by omega),Yf f];rfl)
  |(rename_i a f h
    have a:¬i64.wrap (N.getD 0 0%256*256)>i64.wrap (i64.wrap (Int.tdiv (M.length:Int) 256)*256):=a;have f:¬N.getD 2 0%8>4:=f;rw[j,w64 (by omega) (by omega)] at a;refine .mk [] [5] _ R R R R R (Ql (l:=dL N (N.getD 0 0%256) (N.getD 2 0%8)) (l':=dN N (qF M)) ?_) rfl
    rw[QeI,Yb (by omega),Yb f];rfl)
def QlT:PSpec:=⟨[gC,gD],fun(c,d,_)=>(some (c.2.1=8∧List.length d.2≤140737488355328∧0<qF d.2),.agg [.own 0,.own 1],[.arr (.int .i64) (dN d.1 (qF d.2)),.arr (.int .u8) (dM d.2)])⟩
theorem Qe4:G0 58 QlT.spec:=by
 have g:S0 _:=Qa QcT (Qb (T:=tree));have p:=tabs g Qc;refine QlT.gd p g Tryz.func58 fun(c:Cv) (d:Dv) s=>?_
 obtain⟨cn,E,cb,cs,cd⟩:=c;obtain⟨N,M⟩:=d;obtain⟨rfl,B,h0⟩:E=8∧M.length≤140737488355328∧0<qF M:=s _ rfl;have j:=QlQ M B;have t:=Qnq M
 have r:over (List.replicate (i64.wrap (i64.wrap (Int.tdiv (M.length:Int) 256)*256)).toNat 0) M 0=dM M:=by
  rw[j];exact QfB M t
 repeat' first|(apply Ea;conv=>whnf)|apply Eb|apply Ec|apply Ed|apply Ee|(apply Ei;intro _)|apply Ef p g
 all_goals first
  |exact Qkj
  |exact Ya rfl
  |skip
 all_goals first
  |(exfalso;rename_i h;have h:¬i64.wrap (i64.wrap (Int.tdiv (M.length:Int) 256)*256)>0:=h;rw[j] at h;omega)
  |(have e:ty5.bytes=1:=rfl
    rw[e,show(List.length (N,M).2)=M.length from rfl,j];omega)
  |(rename_i a f h
    have a:i64.wrap (N.getD 0 0%256*256)>i64.wrap (i64.wrap (Int.tdiv (M.length:Int) 256)*256):=a;have f:N.getD 2 0%8>4:=f;rw[j,w64 (by omega) (by omega)] at a;refine .mk [] [5,6] _ R R R R R (Qu (l:=dL N 0 0) (l':=dN N (qF M)) ?_ r) rfl
    rw[QeI,Yf (by omega),Yf f];rfl)
  |(rename_i a f h
    have a:i64.wrap (N.getD 0 0%256*256)>i64.wrap (i64.wrap (Int.tdiv (M.length:Int) 256)*256):=a;have f:¬N.getD 2 0%8>4:=f;rw[j,w64 (by omega) (by omega)] at a;refine .mk [] [5,6] _ R R R R R (Qu (l:=dL N 0 (N.getD 2 0%8)) (l':=dN N (qF M)) ?_ r) rfl
    rw[QeI,Yf (by omega),Yb f];rfl)
  |(rename_i a f h
    have a:¬i64.wrap (N.getD 0 0%256*256)>i64.wrap (i64.wrap (Int.tdiv (M.length:Int) 256)*256):=a;have f:N.getD 2 0%8>4:=f;rw[j,w64 (by omega) (by omega)] at a;refine .mk [] [5,6] _ R R R R R (Qu (l:=dL N (N.getD 0 0%256) 0) (l':=dN N (qF M)) ?_ r) rfl
    rw[QeI,Yb (by omega),Yf f];rfl)
  |(rename_i a f h
    have a:¬i64.wrap (N.getD 0 0%256*256)>i64.wrap (i64.wrap (Int.tdiv (M.length:Int) 256)*256):=a;have f:¬N.getD 2 0%8>4:=f;rw[j,w64 (by omega) (by omega)] at a;refine .mk [] [5,6] _ R R R R R (Qu (l:=dL N (N.getD 0 0%256) (N.getD 2 0%8)) (l':=dN N (qF M)) ?_ r) rfl
    rw[QeI,Yb (by omega),Yb f];rfl)
abbrev Qx:Ty:=.pair (.int .i64) (.pair (.int .i64) (.pair (.int .i64) (.int .i64)))
abbrev Qp:Ty:=.pair (.int .i64) (.pair (.int .i64) (.pair (.int .i64) (.sl Qx)))
abbrev Qap:Ty:=.pair (.int .i64) (.pair .str (.pair (.int .i64) (.sl Qp)))
abbrev QDt:Ty:=.pair .str (.pair (.sl Qap) (.pair (.sl Qp) (.pair (.sl Qp) (.sl Qp))))
abbrev QDu:Ty:=.pair (.ints .i64 9) (.pair (.int .i64) (.pair (.int .i64) .bool))
abbrev gR:Sig:=⟨true,.ints .i64 9⟩
abbrev Qyu:Sig:=⟨true,QDt⟩
abbrev gK:Sig:=⟨true,QDu⟩
abbrev gB:Sig:=⟨false,.bool⟩
abbrev Stp:=Int×Int×Int×Int
abbrev Cyc:=Int×Int×Int×List Stp
abbrev Ins:=Int×ByteArray×Int×List Cyc
abbrev Cpu:=ByteArray×List Ins×List Cyc×List Cyc×List Cyc
abbrev Kor:=List Int×Int×Int×Bool
theorem Qkz(x:Int):i64.wrap x=(x+9223372036854775808)%18446744073709551616-9223372036854775808:=by
 rw[IntKind.wrap_i64]
theorem QJ{k:Nat}(h:k≤4611686018427387904):i64.wrap ((k:Int)+1)=((k+1:Nat):Int):=by
 rw[w64 (by omega) (by omega)];omega
theorem QuC(x k:Int):x.tmod k=if 0≤x then x%k else -((-x)%k):=by
 split
 ·rename_i h;exact Yi h
 ·rename_i h;have:=Int.neg_tmod (-x) k;rw[Int.neg_neg] at this;rw[this,Yi (by omega)]
theorem QDv(x k:Int):x.tdiv k=if 0≤x then x/k else -((-x)/k):=by
 split
 ·rename_i h;exact Yp h
 ·rename_i h;have:=Int.neg_tdiv (-x) k;rw[Int.neg_neg] at this;rw[this,Yp (by omega)]
def QH(l:List Int):List Int:=[l.getD 0 0%256,l.getD 1 0%256,l.getD 2 0%256,l.getD 3 0%256,l.getD 4 0%256,l.getD 5 0%256,l.getD 6 0%256,l.getD 7 0%65536,l.getD 8 0%65536]
theorem nine{l:List Int}(h:l.length=9):∃a b c d e f g h i,l=[a,b,c,d,e,f,g,h,i]:=by
 match l,h with
 | [a,b,c,d,e,f,g,h,i],_=>exact⟨a,b,c,d,e,f,g,h,i,rfl⟩
theorem QLG{l l':List Int}(h:l=l'):AV.agg [.run .i64 9 l]=AV.agg [.run .i64 9 l']:=by rw[h]
def Qaa(r:Int):Bool:=decide (r=7∨r=8)
def QV(r:Int):Bool:=decide (0≤r∧r≤6)
def Qyv:PSpec:=⟨[gi],fun(r,_)=>(none,.cell (bv (Qaa r)),[])⟩
def QuD:PSpec:=⟨[gi],fun(r,_)=>(none,.cell (bv (QV r)),[])⟩
theorem QfL:G0 250 Qyv.spec:=by
 have j:S0 _:=(Qb (T:=tree))
 have m:=tabs j Qc;refine Qyv.gd m j Tryz.func250 fun(r:Int) _=>?_
 repeat' first|(apply Ea;conv=>whnf)|apply Eb|apply Ec|apply Ed|apply Ee|(apply Ei;intro _)|apply Ef m j|apply Eg m j
 all_goals
  refine .k [] [] _ rfl (Qj ?_);show _=Qaa r
  simp_all [Qaa]<;>first|rfl|omega
theorem QG:G0 140 Qyv.spec:=by
 have j:S0 _:=(Qb (T:=tree))
 have m:=tabs j Qc;refine Qyv.gd m j Tryz.func140 fun(r:Int) _=>?_
 repeat' first|(apply Ea;conv=>whnf)|apply Eb|apply Ec|apply Ed|apply Ee|(apply Ei;intro _)|apply Ef m j|apply Eg m j
 all_goals
  refine .k [] [] _ rfl (Qj ?_);show _=Qaa r
  simp_all [Qaa]<;>first|rfl|omega
theorem Qq:G0 139 QuD.spec:=by
 have j:S0 _:=(Qb (T:=tree))
 have m:=tabs j Qc;refine QuD.gd m j Tryz.func139 fun(r:Int) _=>?_
 repeat' first|(apply Ea;conv=>whnf)|apply Eb|apply Ec|apply Ed|apply Ee|(apply Ei;intro _)|apply Ef m j|apply Eg m j
 all_goals
  refine .k [] [] _ rfl (Qj ?_);show _=QV r
  simp_all [QV]<;>first|rfl|omega
def QBj:PSpec:=⟨[gi],fun(r,_)=>(none,I (cond (Qaa r) 16 8),[])⟩
theorem QpJ:G0 244 QBj.spec:=by
 have j:S0 _:=Qa QfL (Qb (T:=tree));have m:=tabs j Qc;refine QBj.gd m j Tryz.func244 fun(r:Int) _=>?_
 repeat' first|(apply Ea;conv=>whnf)|apply Eb|apply Ec|apply Ed|apply Ee|(apply Ei;intro _)|apply Ef m j|apply Eg m j
 ·rename_i h;refine .k [] [] _ rfl (Qd ?_);show _=cond (Qaa r) 16 8;rw[show Qaa r=true from Yl h];rfl
 ·rename_i h;refine .k [] [] _ rfl (Qd ?_);show _=cond (Qaa r) 16 8;rw[show Qaa r=false from Yn h];rfl
def QIz:PSpec:=⟨[gR],fun(l,_)=>(some (List.length l=9),.agg [.run .i64 9 (QH l)],[])⟩
theorem QnH:G0 207 QIz.spec:=by
 have j:S0 _:=Qa QpJ (Qa QU (Qb (T:=tree)));have m:=tabs j Qc;refine QIz.gd m j Tryz.func207 fun(l:List Int) t=>?_
 have t:l.length=9:=t _ rfl;obtain⟨a,b,c,d,e,f,g,h,i,rfl⟩:=nine t
 repeat' first|(apply Ea;conv=>whnf)|apply Eb|apply Ec|apply Ed|apply Ee|(apply Ei;intro _)|apply Ef m j|apply Eg m j
 refine QP 10 ?_
 repeat' first|(apply Ea;conv=>whnf)|apply Eb|apply Ec|apply Ed|apply Ee|(apply Ei;intro _)|apply Ef m j|apply Eg m j
 all_goals first
  |exact Ya rfl
  |exact .k [] [] _ R R
theorem QkA:G0 137 QIz.spec:=by
 have j:S0 _:=Qa QG (Qa QbC (Qb (T:=tree)));have m:=tabs j Qc;refine QIz.gd m j Tryz.func137 fun(l:List Int) t=>?_
 have t:l.length=9:=t _ rfl;obtain⟨a,b,c,d,e,f,g,h,i,rfl⟩:=nine t
 repeat' first|(apply Ea;conv=>whnf)|apply Eb|apply Ec|apply Ed|apply Ee|(apply Ei;intro _)|apply Ef m j|apply Eg m j
 refine QP 10 ?_
 repeat' first|(apply Ea;conv=>whnf)|apply Eb|apply Ec|apply Ed|apply Ee|(apply Ei;intro _)|apply Ef m j|apply Eg m j
 all_goals first
  |exact Ya rfl
  |exact .k [] [] _ R R
def QIA(a:Int):Int:=([65534,65535,65530,65531,65532,65533]:List Int).getD (a-6).toNat 0
def plA(a:Int)(r:List Int):Int :=
 if a=0∨a=1 then r.getD 7 0 else if a=2 then r.getD 8 0 else if a=3 then (r.getD 8 0+1)%65536 else if a=4 then 256+r.getD 3 0 else if a=5 then 256+(r.getD 3 0+1)%256
 else if a<0∨a≥12 then 0 else QIA a
def plR(a:Int)(r:List Int):List Int :=
 if a=0 then r.set 7 ((r.getD 7 0+1)%65536) else if a=4 then r.set 3 ((r.getD 3 0-1)%256) else if a=5 then r.set 3 ((r.getD 3 0+1)%256) else r
theorem QLH{x y:Int}{l l':List Int}(h:x=y)(M:l=l'):AV.tup [I1 x,.agg [.run .i64 9 l]]=AV.tup [I1 y,.agg [.run .i64 9 l']]:=by rw[h,M]
def QLI:PSpec:=⟨[gi],fun(a,_)=>(some (6≤a∧a<12),I (QIA a),[])⟩
theorem QGl:G0 245 QLI.spec:=by
 have j:S0 _:=(Qb (T:=tree))
 have m:=tabs j Qc;refine QLI.gd m j Tryz.func245 fun(a:Int) t=>?_
 have t:6≤a∧a<12:=t _ rfl;have e:i64.wrap (a-6)=a-6:=w64 (by omega) (by omega)
 repeat' first|(apply Ea;conv=>whnf)|apply Eb|apply Ec|apply Ed|apply Ee|(apply Ei;intro _)|apply Ef m j|apply Eg m j
 ·rw[e];show 0≤a-6∧a-6<6;omega
 ·rw[e];show(a-6).toNat<6;omega
 ·refine .k [] [] _ rfl (Qd ?_);rw[e];rfl
def QuE:PSpec:=⟨[gi,gR],fun(a,r,_)=>(some (∃q,r=QH q),.tup [I1 (plA a r),.agg [.run .i64 9 (plR a r)]],[])⟩
theorem QuF:G0 209 QuE.spec:=by
 have j:S0 _:=Qa QU (Qa QGl (Qb (T:=tree)));have m:=tabs j Qc;refine QuE.gd m j Tryz.func209 fun(a:Int) (r:List Int) t=>?_
 obtain⟨q,rfl⟩:∃q,r=QH q:=t _ rfl
 repeat' first|(apply Ea;conv=>whnf)|apply Eb|apply Ec|apply Ed|apply Ee|(apply Ei;intro _)|apply Ef m j|apply Eg m j
 all_goals first
  |exact Ya rfl
  |omega
  |skip
 all_goals(try refine .k [] [] _ rfl (QLH ?_ ?_))
 all_goals(try(dsimp only[gi,Den] at *;omega))
 all_goals clear t
 all_goals(try simp_all [plA,plR,QH,Qkz])
 all_goals(try omega)
 all_goals(try(simp only[QuC];split<;>omega))
def QGm:PSpec:=⟨[gi,gR],fun(a,r,_)=>(some (∃q,r=QH q),.tup [I1 (plA a r),.agg [.run .i64 9 (plR a r)]],[])⟩
theorem Qyw:G0 141 QGm.spec:=by
 have j:S0 _:=Qa QkA (Qb (T:=tree));have m:=tabs j Qc;refine QGm.gd m j Tryz.func141 fun(a:Int) (r:List Int) t=>?_
 obtain⟨q,rfl⟩:∃q,r=QH q:=t _ rfl
 repeat' first|(apply Ea;conv=>whnf)|apply Eb|apply Ec|apply Ed|apply Ee|(apply Ei;intro _)|apply Ef m j|apply Eg m j
 all_goals first
  |exact Ya rfl
  |exact rfl
  |skip
 all_goals(try refine .k [] [] _ rfl (QLH ?_ ?_))
 all_goals(try(dsimp only[gi,Den] at *;omega))
 all_goals clear t
 all_goals(try simp_all [plA,plR,QH,Qkz,QIA])
 all_goals(try omega)
 all_goals(try(simp only[QuC];split<;>omega))
def QGn(op:Int)(x:Ins):Bool:=decide (x.1=op∧0≤op∧op≤255)
def QW(c:Cpu)(op:Int):List Cyc :=
 if op=256 then c.2.2.2.1 else if op=257 then c.2.2.2.2 else if op=258 then c.2.2.1 else match c.2.1.find? (QGn op) with|some x=>x.2.2.2|none=>[]
theorem QuG{α:Type}{l:List α}{p:α→Bool}{k:Nat}(d:α)(L:(l.take k).find? p=none)(h:k<l.length)(t:p (l.getD k d)=true):l.find? p=some (l.getD k d):=by
 have e:l=l.take k++l.drop k:=(List.take_append_drop k l).symm
 have e2:l.drop k=l.getD k d::l.drop (k+1):=by
  rw[YJ h];simp[h]
 have:(l.take k++l.drop k).find? p=some (l.getD k d):=by
  rw[List.find?_append,L,e2,List.find?_cons,t];rfl
 rwa[List.take_append_drop] at this
theorem Qdh{α:Type}{l:List α}{p:α→Bool}{k:Nat}(d:α)(L:(l.take k).find? p=none)(h:k<l.length)(t:p (l.getD k d)=false):(l.take (k+1)).find? p=none:=by
 have e2:l.getD k d=l[k]:=by simp[h]
 rw[e2] at t;rw[List.take_succ_eq_append_getElem h,List.find?_append,L];simp[t]
theorem QpK{α:Type}{l:List α}{p:α→Bool}{k:Nat}(L:(l.take k).find? p=none)(h:l.length≤k):l.find? p=none:=by
 rwa[Yh h] at L
def QIB:PSpec:=⟨[Qyu,gi],fun(c,op,_)=>(some (List.length c.2.1≤4611686018427387904),.cell (.ro Qp (QW c op)),[])⟩
theorem QuH:G0 214 QIB.spec:=by
 have j:S0 _:=(Qb (T:=tree))
 have m:=tabs j Qc;refine QIB.gd m j Tryz.func214 fun(c:Cpu) (op:Int) t=>?_
 obtain⟨C,s,z,B,D⟩:=c;have t:s.length≤4611686018427387904:=t _ rfl
 repeat' first|(apply Ea;conv=>whnf)|apply Eb|apply Ec|apply Ed|apply Ee|(apply Ei;intro _)|apply Ef m j|apply Eg m j
 ·rename_i h;refine .k [] [] _ rfl (QiZ ?_)
  simp_all [QW]
 ·rename_i h;refine .k [] [] _ rfl (QiZ ?_)
  simp_all [QW]
 ·rename_i h;refine .k [] [] _ rfl (QiZ ?_)
  simp_all [QW]
 rename_i n1 n2 n3;have n1:¬op=256:=n1;have n2:¬op=257:=n2;have n3:¬op=258:=n3
 have K:QW (C,s,z,B,D) op=match s.find? (QGn op) with|some x=>x.2.2.2|none=>[]:=by
  unfold QW;rw[Yb n1,Yb n2,Yb n3]
 refine QA m j (A:=Unit) s.length (fun i _=>St.mk (E1 ((I op)::E10 (E5 (E3 (E1 ((.cell (.ro Qap s))::(I s.length)::(I i)::E10 (E5 (E3 [])))))))) [])
  (fun k _=>(s.take k).find? (QGn op)=none) () (Le.mk [] [] R R R ?_) (by simp) fun k _ hk F=>?_
 rotate_right
 repeat' first|(apply Ea;conv=>whnf)|apply Eb|apply Ec|apply Ed|apply Ee|(apply Ei;intro _)|apply Ef m j|apply Eg m j
 all_goals(try(dsimp only[gi,Den] at *;omega))
 ·rename_i H w E J;have u:k<s.length:=by omega
  refine .k [] [] _ rfl (QiZ ?_);show _=QW (C,s,z,B,D) op;rw[K,QuG (dflt Qap) F u (Yl ⟨w,E,J⟩)];rfl
 ·rename_i H w E J;have u:k<s.length:=by omega
  apply Ex () [] []
  ·repeat' constructor
  ·omega
  ·exact QJ (by omega)
  exact Qdh (dflt Qap) F u (Yn fun h=>J h.2.2)
 ·rename_i H w E;have u:k<s.length:=by omega
  apply Ex () [] []
  ·repeat' constructor
  ·omega
  ·exact QJ (by omega)
  exact Qdh (dflt Qap) F u (Yn fun h=>E h.2.1)
 ·rename_i H w;have u:k<s.length:=by omega
  apply Ex () [] []
  ·repeat' constructor
  ·omega
  ·exact QJ (by omega)
  exact Qdh (dflt Qap) F u (Yn fun h=>w h.1)
 ·rename_i H;refine .le (Le.nilro 4 Qp rfl) (.k [] [] _ rfl (QiZ ?_));show _=QW (C,s,z,B,D) op;rw[K,QpK F (by omega)]
 ·repeat' constructor
theorem QpL:G0 138 QIB.spec:=by
 have j:S0 _:=(Qb (T:=tree))
 have m:=tabs j Qc;refine QIB.gd m j Tryz.func138 fun(c:Cpu) (op:Int) t=>?_
 obtain⟨C,s,z,B,D⟩:=c;have t:s.length≤4611686018427387904:=t _ rfl
 repeat' first|(apply Ea;conv=>whnf)|apply Eb|apply Ec|apply Ed|apply Ee|(apply Ei;intro _)|apply Ef m j|apply Eg m j
 ·rename_i h;refine .k [] [] _ rfl (QiZ ?_)
  simp_all [QW]
 ·rename_i h;refine .k [] [] _ rfl (QiZ ?_)
  simp_all [QW]
 ·rename_i h;refine .k [] [] _ rfl (QiZ ?_)
  simp_all [QW]
 rename_i n1 n2 n3;have n1:¬op=256:=n1;have n2:¬op=257:=n2;have n3:¬op=258:=n3
 have K:QW (C,s,z,B,D) op=match s.find? (QGn op) with|some x=>x.2.2.2|none=>[]:=by
  unfold QW;rw[Yb n1,Yb n2,Yb n3]
 refine QA m j (A:=Unit) s.length (fun i _=>St.mk (E1 ((I op)::(.cell (.ptr 0 0))::E10 (E5 (E3 ((I s.length)::(I i)::E20 (E5 [])))))) [some (.var [.imm (.string C),.ro Qap s,.ro Qp z,.ro Qp B,.ro Qp D])])
  (fun k _=>(s.take k).find? (QGn op)=none) () (Le.mk [] [0] R R R ?_) (by simp) fun k _ hk F=>?_
 rotate_right
 repeat' first|(apply Ea;conv=>whnf)|apply Eb|apply Ec|apply Ed|apply Ee|(apply Ei;intro _)|apply Ef m j|apply Eg m j
 all_goals(try(dsimp only[gi,Den] at *;omega))
 ·rename_i H w E J;have u:k<s.length:=by omega
  refine .k [] [] _ rfl (QiZ ?_);show _=QW (C,s,z,B,D) op;rw[K,QuG (dflt Qap) F u (Yl ⟨w,E,J⟩)];rfl
 ·rename_i H w E J;have u:k<s.length:=by omega
  apply Ex () [] [0]
  ·repeat' constructor
  ·omega
  ·exact QJ (by omega)
  exact Qdh (dflt Qap) F u (Yn fun h=>J h.2.2)
 ·rename_i H w E;have u:k<s.length:=by omega
  apply Ex () [] [0]
  ·repeat' constructor
  ·omega
  ·exact QJ (by omega)
  exact Qdh (dflt Qap) F u (Yn fun h=>E h.2.1)
 ·rename_i H w;have u:k<s.length:=by omega
  apply Ex () [] [0]
  ·repeat' constructor
  ·omega
  ·exact QJ (by omega)
  exact Qdh (dflt Qap) F u (Yn fun h=>w h.1)
 ·rename_i H;refine .le (Le.nilro 4 Qp rfl) (.k [] [] _ rfl (QiZ ?_));show _=QW (C,s,z,B,D) op;rw[K,QpK F (by omega)]
 ·repeat' constructor
def QaD:Cyc:=(0,0,0,[])
def Qfg(c:Cpu)(op at_:Int):Bool:=!decide (op=-1)&&(decide (0≤at_)&&decide (at_<(QW c op).length))
def doF(c:Cpu)(op at_:Int):Cyc:=if Qfg c op at_ then (QW c op).getD at_.toNat QaD else QaD
theorem Qyx{a b c:Int}{l:List Stp}{o:Bool}{x:Cyc}{o':Bool}(h:(a,b,c,l)=x)(M:o=o'):AV.tup [.agg [iv .i64 a,iv .i64 b,iv .i64 c,.ro Qx l],.c (bv o)]=AV.tup [.agg [iv .i64 x.1,iv .i64 x.2.1,iv .i64 x.2.2.1,.ro Qx x.2.2.2],.c (bv o')]:=by subst h;subst M;rfl
def QBk:PSpec:=⟨[Qyu,gK],fun(c,k,_)=>(some (List.length c.2.1≤4611686018427387904),.tup [.agg [iv .i64 (doF c k.2.1 k.2.2.1).1,iv .i64 (doF c k.2.1 k.2.2.1).2.1,iv .i64 (doF c k.2.1 k.2.2.1).2.2.1,.ro Qx (doF c k.2.1 k.2.2.1).2.2.2],.c (bv (Qfg c k.2.1 k.2.2.1))],[])⟩
theorem QpM:G0 210 QBk.spec:=by
 have j:S0 _:=Qa QuH (Qb (T:=tree));have m:=tabs j Qc;refine QBk.gd m j Tryz.func210 fun(c:Cpu) (k:Kor) t=>?_
 obtain⟨C,s,z,B,D⟩:=c;obtain⟨r,op,at_,n⟩:=k;have t:s.length≤4611686018427387904:=t _ rfl
 repeat' first|(apply Ea;conv=>whnf)|apply Eb|apply Ec|apply Ed|apply Ee|(apply Ei;intro _)|apply Ef m j|apply Eg m j
 all_goals(try(dsimp only[gi,Den] at *;omega))
 ·exact t
 ·rename_i g;have g:op=-1:=g;have G:Qfg (C,s,z,B,D) op at_=false:=by unfold Qfg;rw[Yl g];rfl
  refine .le (Le.nilroH 2 _ [iv .i64 0,iv .i64 0,iv .i64 0,.ro Qx []] rfl ⟨.inl rfl,.inl rfl,.inl rfl,.inr ⟨rfl,_,rfl⟩,trivial⟩) (.k [] [] _ rfl (Qyx ?_ G.symm));show QaD=doF _ _ _;unfold doF;rw[Yb (by rw[G];decide)]
 ·rename_i g w;have w:at_<0:=w;have G:Qfg (C,s,z,B,D) op at_=false:=by unfold Qfg;rw[Yn (show¬0≤at_ by omega)];simp
  refine .le (Le.nilroH 2 _ [iv .i64 0,iv .i64 0,iv .i64 0,.ro Qx []] rfl ⟨.inl rfl,.inl rfl,.inl rfl,.inr ⟨rfl,_,rfl⟩,trivial⟩) (.k [] [] _ rfl (Qyx ?_ G.symm));show QaD=doF _ _ _;unfold doF;rw[Yb (by rw[G];decide)]
 ·rename_i g w E;have E:at_≥((QW (C,s,z,B,D) op).length:Int):=E;have G:Qfg (C,s,z,B,D) op at_=false:=by unfold Qfg;rw[Yn (show¬at_<((QW (C,s,z,B,D) op).length:Int) by omega)];simp
  refine .le (Le.nilroH 2 _ [iv .i64 0,iv .i64 0,iv .i64 0,.ro Qx []] rfl ⟨.inl rfl,.inl rfl,.inl rfl,.inr ⟨rfl,_,rfl⟩,trivial⟩) (.k [] [] _ rfl (Qyx ?_ G.symm));show QaD=doF _ _ _;unfold doF;rw[Yb (by rw[G];decide)]
 ·rename_i g w E;have g:¬op=-1:=g;have w:¬at_<0:=w;have E:¬at_≥((QW (C,s,z,B,D) op).length:Int):=E;have G:Qfg (C,s,z,B,D) op at_=true:=by unfold Qfg;rw[Yn g,Yl (show 0≤at_ by omega),Yl (show at_<((QW (C,s,z,B,D) op).length:Int) by omega)];rfl
  refine .k [] [] _ rfl (Qyx ?_ G.symm);unfold doF;rw[Yf G];rfl
theorem QdN(p:Int→Prop)[DecidablePred p](h:∀n:Fin 256,p (n.val:Int))(x:Int)(h1:0≤x)(M:x<256):p x:=by
 have:=h ⟨x.toNat,by omega⟩;have e:((x.toNat:Nat):Int)=x:=by omega
 simpa[e] using this
theorem QKz:∀x:Int,0≤x→x<256→(decide (land .i64 x 4=0))=decide (x/4%2=0):=QdN (fun x=>(decide (land .i64 x 4=0))=decide (x/4%2=0)) (by decide +kernel)
def Qbm(c:Cpu)(k:Kor)(irq:Bool):Kor :=
 if (k.2.2.2&&decide (0<c.2.2.2.2.length))=true then (k.1,257,0,false) else if (irq&&(decide (k.1.getD 4 0/4%2=0)&&decide (0<c.2.2.2.1.length)))=true then (k.1,256,0,k.2.2.2) else k
theorem QpN{r:List Int}{a b:Int}{n:Bool}{x:Kor}(h:(r,a,b,n)=x):AV.agg [.run .i64 9 r,iv .i64 a,iv .i64 b,bv n]=AV.agg [.run .i64 9 x.1,iv .i64 x.2.1,iv .i64 x.2.2.1,bv x.2.2.2]:=by subst h;rfl
def QBl:PSpec:=⟨[Qyu,gK,gB],fun(c,k,i,_)=>(some (List.length c.2.1≤4611686018427387904∧∃q,k.1=QH q),.agg [.run .i64 9 (Qbm c k i).1,iv .i64 (Qbm c k i).2.1,iv .i64 (Qbm c k i).2.2.1,bv (Qbm c k i).2.2.2],[])⟩
theorem Qyy:G0 208 QBl.spec:=by
 have j:S0 _:=Qa QuH (Qb (T:=tree));have m:=tabs j Qc;refine QBl.gd m j Tryz.func208 fun(c:Cpu) (k:Kor) (i:Bool) t=>?_
 obtain⟨C,s,z,B,D⟩:=c;obtain⟨r,op,at_,n⟩:=k;obtain⟨hz,q,rfl⟩:s.length≤4611686018427387904∧∃q,r=QH q:=t _ rfl;clear t
 have hl:land .i64 (q.getD 4 0%256) 4=0↔q.getD 4 0%256/4%2=0:=by
  have:=QKz (q.getD 4 0%256) (by omega) (by omega);simpa using this
 repeat' first|(apply Ea;conv=>whnf)|apply Eb|apply Ec|apply Ed|apply Ee|(apply Ei;intro _)|apply Ef m j|apply Eg m j
 refine QP 3 ?_
 repeat' first|(apply Ea;conv=>whnf)|apply Eb|apply Ec|apply Ed|apply Ee|(apply Ei;intro _)|apply Ef m j|apply Eg m j
 all_goals first
  |exact Ya rfl
  |exact hz
  |skip
 all_goals(try refine .k [] [] _ rfl (QpN ?_))
 all_goals(simp only[Qf] at *)
 all_goals(try simp_all [Qbm,QH,QW,Qkz])
 all_goals trace_state
set_option linter.constructorNameAsVariable false
abbrev Qyz:Sig:=⟨false,.str⟩
def Qi3(c:Int):Bool:=decide ((97≤c∧c≤122)∨(48≤c∧c≤57)∨c=45)
def QaK(l:List Int):Bool:=decide (l.length≠0∧l.length≤20∧97≤l.getD 0 0∧l.getD 0 0≤122)&&l.all Qi3
theorem Qmi(s:ByteArray):(bytesOf s).length=s.size:=by
 unfold bytesOf;rw[Jf,Array.length_toList];rfl
theorem Qij(s:ByteArray)(i:Nat):Qfj s i=(bytesOf s).getD i 0:=by
 unfold Qfj bytesOf;rw[Yd,Yd,Jc];cases s.data.toList[i]?<;>rfl
theorem Qhd(s:ByteArray):∀c∈bytesOf s,0≤c∧c<256:=by
 intro c g;unfold bytesOf at g;obtain⟨b,_,rfl⟩:=List.mem_map.1 g;have:=b.toNat_lt;omega
theorem QuI{s:ByteArray}:Qm s ⟨#[]⟩=decide ((bytesOf s).length=0):=by
 unfold Qm bytesOf;rw[ByteArray.toList_eq,ByteArray.toList_eq,Jf];cases s.data.toList with
 |nil=>rfl
 |cons a r=>rfl
theorem Qe7{l:List Int}(h:l.length=0∨l.length>20∨l.getD 0 0<97∨l.getD 0 0>122∨l.all Qi3=false):QaK l=false:=by
 unfold QaK;by_cases d:l.all Qi3=false
 ·rw[d,Bool.and_false]
 ·rw[Yn (by rcases h with h|h|h|h|h<;>first|omega|exact YD h d),Bool.false_and]
theorem QpO{l:List Int}{k:Nat}(h:k<l.length)(m:(l.take k).all Qi3=true)(d:Qi3 (l.getD k 0)=true):(l.take (k+1)).all Qi3=true:=by
 rw[Yd,Ye h] at d;rw[Je,List.all_append,m,Ye h];simpa using d
theorem QBm{l:List Int}{k:Nat}(h:k<l.length)(d:Qi3 (l.getD k 0)=false):l.all Qi3=false:=by
 rw[Yd,Ye h] at d;rw[←Bool.not_eq_true];intro e;have:=List.all_eq_true.1 e _ (YW h);have d:Qi3 l[k]=false:=d;rw[d] at this;cases this
def QyA:PSpec:=⟨[Qyz],fun(s,_)=>(none,.cell (bv (QaK (bytesOf s))),[])⟩
theorem QfM:G0 100 QyA.spec:=by
 have f:S0 _:=(Qb (T:=tree))
 have j:=tabs f Qc;refine QyA.gd j f Tryz.func100 fun(s:ByteArray) _=>?_
 repeat' first|(apply Ea;conv=>whnf)|apply Eb|apply Ec|apply Ed|apply Ee|(apply Ei;intro _)|apply Ef j f
 all_goals first
  |exact Ya rfl
  |skip
 all_goals(have hL:=Qmi s)
 all_goals(simp only[QuI,Qij] at *)
 all_goals(have h0:Int.toNat 0=0:=rfl)
 all_goals(try simp only[h0] at *)
 all_goals first
  |(rename_i h
    have h:=Ya h
    exact .k [] [] _ rfl (Qj (Qe7 (.inl h)).symm))
  |(have h:(s.size:Int)>20:=by assumption
    refine .k [] [] _ rfl (Qj (Qe7 (.inr (.inl ?_))).symm);rw[hL]
    omega)
  |(have m:decide ((bytesOf s).length=0)=false:=by assumption
    have m:=of_decide_eq_false m;show 0≤(0:Int)∧(0:Int)<(s.size:Int)
    omega)
  |(rename_i h
    exact .k [] [] _ rfl (Qj (Qe7 (.inr (.inr (.inl h)))).symm))
  |(rename_i h
    exact .k [] [] _ rfl (Qj (Qe7 (.inr (.inr (.inr (.inl h))))).symm))
  |skip
 have q:decide ((bytesOf s).length=0)=false:=by assumption
 have q:=of_decide_eq_false q;have g2:¬(s.size:Int)>20:=by assumption
 have g3:¬(bytesOf s).getD 0 0<97:=by assumption
 have g4:¬(bytesOf s).getD 0 0>122:=by assumption
 have hF:QaK (bytesOf s)=(bytesOf s).all Qi3:=by
  unfold QaK;rw[Yl ⟨q,by omega,by omega,by omega⟩,Bool.true_and]
 refine QA j f (A:=Unit) (bytesOf s).length (fun i _=>St.mk (E20 (E3 ((.cell (.ro (.int .u8) (bytesOf s)))::(I ((bytesOf s).length:Int))::(I i)::E20 (E3 [])))) [])
  (fun k _=>((bytesOf s).take k).all Qi3=true) () (Le.mk [] [] R R R ?_) (by simp) fun k _ hk n=>?_
 ·repeat' constructor
 repeat' first|(apply Ea;conv=>whnf)|apply Eb|apply Ec|apply Ed|apply Ee|(apply Ei;intro _)|apply Ef j f
 all_goals
  have ec:List.getD (α:=Den (.int .u8)) (bytesOf s) ((k:Int)).toNat (dflt (.int .u8))=(bytesOf s).getD k 0:=rfl
  try simp only[ec] at *
  clear ec
 all_goals clear j f
 all_goals
  generalize g:(bytesOf s).getD k 0=c at *
 all_goals(try simp only[cond_false,Bool.not_eq_true',Bool.not_eq_false',beq_iff_eq,beq_eq_false_iff_ne] at *)
 have hlen:(bytesOf s).length≤20:=by omega
 all_goals first
  |exact Ya rfl
  |(show 0≤(k:Int)∧(k:Int)<((bytesOf s).length:Int)
    omega)
  |(have p:Qi3 c=false:=Yn (by omega)
    refine .k [] [] _ rfl (Qj ?_)
    rw[hF,QBm (k:=k) (by omega) (by rw[g];exact p)])
  |(have p:Qi3 c=true:=Yl (by omega)
    apply Yw;apply Yw ();refine Yo (Yo ?lt (Yo ?ei ?inv)) (Le.k [] [] ?hh)
    case hh=>repeat' constructor
    case lt=>omega
    case ei=>exact QJ (by omega)
    case inv=>exact QpO (by omega) n (by rw[g];exact p))
  |(refine .k [] [] _ rfl (Qj ?_)
    rw[hF];rw[Yh (by omega)] at n
    exact n.symm)
  |skip
 all_goals trace_state
def QcZ(m:Int):Int:=if m=0 then 0 else if m=4∨m=5∨m=6 then 2 else if m=1∨m=2∨m=3∨m=7∨m=8 then 1 else -1
def Qp4:PSpec:=⟨[gi],fun(m,_)=>(none,I (QcZ m),[])⟩
theorem Qy5:G0 186 Qp4.spec:=by
 have a:S0 _:=(Qb (T:=tree))
 have b:=tabs a Qc;refine Qp4.gd b a Tryz.func186 fun(m:Int) _=>?_
 repeat' first|(apply Ea;conv=>whnf)|apply Eb|apply Ec|apply Ed|apply Ee|(apply Ei;intro _)|apply Ef b a|apply Eg b a
 all_goals(refine .k [] [] _ rfl (Qd ?_))
 all_goals clear b a
 all_goals(show _=QcZ m;unfold QcZ;dsimp only[gi,Den] at *)
 all_goals((repeat' split)<;>first|rfl|omega)
theorem QnO:G0 116 Qp4.spec:=by
 have a:S0 _:=(Qb (T:=tree))
 have b:=tabs a Qc;refine Qp4.gd b a Tryz.func116 fun(m:Int) _=>?_
 repeat' first|(apply Ea;conv=>whnf)|apply Eb|apply Ec|apply Ed|apply Ee|(apply Ei;intro _)|apply Ef b a|apply Eg b a
 all_goals first
  |exact Ya rfl
  |(dsimp only[gi,Den] at *;simp only[Yx,YU] at *;omega)
  |skip
 all_goals(refine .k [] [] _ rfl (Qd ?_))
 all_goals clear b a
 all_goals(dsimp only[gi,Den] at *)
 all_goals(try simp only[Yx,YU] at *)
 all_goals first
  |(show _=QcZ m;unfold QcZ;(repeat' split)<;>first|rfl|omega)
  |skip
 ·have hm:m=0∨m=1∨m=2∨m=3∨m=4∨m=5∨m=6∨m=7∨m=8:=by omega
  rcases hm with rfl|rfl|rfl|rfl|rfl|rfl|rfl|rfl|rfl<;>rfl
def Qp5:PSpec:=⟨[⟨false,.sl Qp⟩],fun(l,_)=>(some (l=[]),I 0,[])⟩
theorem QrS:G0 189 Qp5.spec:=by
 have a:S0 _:=(Qb (T:=tree))
 have b:=tabs a Qc;refine Qp5.gd b a Tryz.func189 fun(l:List Cyc) e=>?_
 obtain rfl:l=[]:=e _ rfl;clear e
 repeat' first|(apply Ea;conv=>whnf)|apply Eb|apply Ec|apply Ed|apply Ee|(apply Ei;intro _)|apply Ef b a|apply Eg b a
 refine QP 1 ?_
 repeat' first|(apply Ea;conv=>whnf)|apply Eb|apply Ec|apply Ed|apply Ee|(apply Ei;intro _)|apply Ef b a|apply Eg b a
 all_goals exact .k [] [] _ R R
def Qu6:PSpec:=⟨[Qyu],fun(c,_)=>(some (c.2=([],[],[],[])),I (if QaK (bytesOf c.1)=true then 0 else 15),[])⟩
theorem Qu7:G0 101 Qu6.spec:=by
 have a:S0 _:=Qa QfM (Qa QrS (Qb (T:=tree)));have b:=tabs a Qc;refine Qu6.gd b a Tryz.func101 fun(c:Cpu) e=>?_
 obtain⟨d,c2⟩:=c;obtain rfl:c2=([],[],[],[]):=e _ rfl;clear e
 repeat' first|(apply Ea;conv=>whnf)|apply Eb|apply Ec|apply Ed|apply Ee|(apply Ei;intro _)|apply Ef b a|apply Eg b a
 all_goals first
  |exact Ya rfl
  |skip
 ·rename_i h
  have f:QaK (bytesOf d)=false:=by
   have h:(!QaK (bytesOf d))=true:=h;simpa using h
  refine .k [] [] _ rfl (Qd ?_);show 15=if QaK (bytesOf d)=true then 0 else 15
  rw[f];rfl
 rename_i h
 have f:QaK (bytesOf d)=true:=by
  have h:(!QaK (bytesOf d))=false:=h;simpa using h
 refine QP 1 ?_
 repeat' first|(apply Ea;conv=>whnf)|apply Eb|apply Ec|apply Ed|apply Ee|(apply Ei;intro _)|apply Ef b a|apply Eg b a
 refine QP 4 ?_
 repeat' first|(apply Ea;conv=>whnf)|apply Eb|apply Ec|apply Ed|apply Ee|(apply Ei;intro _)|apply Ef b a|apply Eg b a
 all_goals first
  |exact Ya rfl
  |exact rfl
  |skip
 all_goals(refine .k [] [] _ rfl (Qd ?_))
 all_goals(show 0=if QaK (bytesOf d)=true then 0 else 15;rw[f];rfl)
def Qam(a b c:Int):Int:=if a<b then b else if a>c then c else a
def QA0:PSpec:=⟨[gi,gi,gi],fun(a,b,c,_)=>(none,I (Qam a b c),[])⟩
theorem Qha:G0 80 QA0.spec:=by
 have hP:S0 _:=(Qb (T:=tree))
 have hT:=tabs hP Qc;refine QA0.gd hT hP Tryz.func80 fun(a b c:Int) _=>?_
 repeat' first|(apply Ea;conv=>whnf)|apply Eb|apply Ed|apply Ee|(apply Ei;intro _)
 ·refine .k [] [] _ rfl (Qd ?_);show _=Qam a b c;unfold Qam;rw[Yf (by assumption)]
 ·refine .k [] [] _ rfl (Qd ?_);show _=Qam a b c;unfold Qam;rw[Yb (by assumption),Yf (by assumption)]
 ·refine .k [] [] _ rfl (Qd ?_);show _=Qam a b c;unfold Qam;rw[Yb (by assumption),Yb (by assumption)]
end Go.Proofs.YtofgbclopbmlcaaGreat

namespace Go.Fw
open Go.IntKind (i64)
set_option linter.unusedVariables false
set_option linter.unusedSimpArgs false
structure FSpec where
 gs:List Sig
 out:Args gs→Nat→Option Prop×AV×List Blk
def QFd:(gs:List Sig)→List V1→Option (Args gs×Nat)
 | [],l=>match l with
   | [.c (.fn g [])]=>some ((),g)
   |_=>none
 |g::gs,l=>match l with
  |x::xs=>match QAB g x with
   |some d=>(match QFd gs xs with|some (r,f)=>some ((d,r),f)|none=>none)
   |none=>none
  | []=>none
def QtO(f:Nat):(gs:List Sig)→Args gs→List V1
 | [],_=>[.c (.fn f [])]
 |g::gs,(a,r)=>QcJ g a::QtO f gs r
def FSpec.spec(s:FSpec):CSpec:={ wr:=false,run:=fun args bl=>match bl with
 | []=>match QFd s.gs args with
   |some (xs,f)=>some ((s.out xs f).1,(s.out xs f).2.1,[],(s.out xs f).2.2)
   |none=>none
 |_::_=>none }
theorem Qpd{E:Env}(hH:HeapOk E)(hn:∀b,E.H b=none):∀{gs:List Sig} {xs:List V1} {ds:Args gs} {f:Nat} {vs:List Value},QFd gs xs=some (ds,f)→VsR E xs vs→VsR E (QtO f gs ds) vs
 | [],xs,ds,f,vs,h,hv=>by
   unfold QFd at h;split at h
   ·injection h with h
    injection h with h1 h2
    subst h2;exact hv
   ·cases h
 |g::gs,[],ds,f,vs,h,hv=>by simp[QFd] at h
 |g::gs,x::xs,ds,f,vs,h,⟨v,r,e,h1,h2⟩=>by
  unfold QFd at h;simp only at h;split at h
  ·rename_i d hd;split at h
   ·rename_i rs f' hr;injection h with h
    injection h with e1 e2
    subst e1;subst e2;exact⟨v,r,e,QoP hH hn hd h1,Qpd hH hn hr h2⟩
   ·cases h
  ·cases h
theorem FSpec.good{P:Program}{T:Tab}{f:FuncId}{fn:Func}(hT:TabOk P T)(hP:Q7 P T)(hf:P.funcs[f]?=some fn)(hn:(fn.name == "runtime.NumGoroutine")=false)(s:FSpec)(hb:fn.body.isSome=true)
 (h:QcS s.gs fun xs=>∀g:Nat,(∀q,(s.out xs g).1=some q→q)→Go (QhS P T fn (QtO g s.gs xs) [] (s.out xs g).2.1 [] (s.out xs g).2.2)):QR P f s.spec:=by
 refine⟨?_,fn,hf,hn,hb⟩;obtain⟨c,hc⟩:=Option.isSome_iff_exists.1 hb;refine Qj7 hT hf hc _ fun args bl p r upd fresh hrun hp=>?_
 unfold FSpec.spec at hrun;simp only at hrun;split at hrun
 ·split at hrun
  ·rename_i xs g hxs;simp only[Yc,YM] at hrun;obtain⟨rfl,rfl,rfl,rfl⟩:=hrun;refine⟨_,fun E vs hok hH hv=>Qpd hok (fun b=>by rw[hH];simp) hxs hv,?_⟩;have:=(h.out xs g hp).out;rw[QhT] at this;unfold Qjm at this;rw[hc] at this;simp only[Qhu,Qfn,Qbi] at this;exact Qg4 hT hP c this
  ·cases hrun
 ·cases hrun
theorem Le.nilH{m:Nat}{st:St}(b:Nat)(t:Ty)(cs ds:List Cell)(h:st.heap[b]?=some (some (.var cs)))(hn:QFs st.heap.length cs=some ds)(hsz:ds.map Cell.size=cs.map Cell.size) :
 Le m st { tmps:=st.tmps,heap:=Qad (Qad st.heap st.heap.length (some (.arr t []))) b (some (.var ds)) }:=by
 intro E0 E a hm hs hf;have hlt:b<st.heap.length:=(Yu.1 h).1;have hU:¬E.U st.heap.length:=fun hu=>by have:=hs.U _ hu;omega
 have hstep:Step E { pre:=none,val:=.dead,add:=[.arr t []],set:=[] } st.heap.length (Qcb E [] st.heap.length t):=Step.nil (us:=[]) hs.ok rfl rfl hU;have hs1:=hs.step (dst:=none) (v:=undef) hstep trivial;have hf1:=hf.step hstep;have hlook:st.look b=some (.var cs):=by unfold St.look;rw[h]
 have hb:E.H b=some (.var cs):=(hs.H b).trans hlook;have hne:b≠st.heap.length:=by omega
 obtain⟨hu,⟨g,ca,el,hr,hw,hir⟩,hS⟩:=hs.ok.blk b _ hb;have hb1:(Qcb E [] st.heap.length t).H b=some (.var cs):=by simp[Qcb,hne,hb]
 have hr1:(Qcb E [] st.heap.length t).ρ b=some g:=by simp[Qcb,hne,hr]
 have hsh:shape (.var ds)=shape (.var cs):=by simp only[shape];rw[hsz]
 have hwr:Writes (Qcb E [] st.heap.length t) g ca ca el (Qcb E [] st.heap.length t).w:=⟨hw,hw,rfl,fun _ _=>rfl,rfl,rfl,rfl,rfl⟩
 have hir1:=Qj5 hstep.ext hn hir;have hheap:(st.act st.heap.length { pre:=none,val:=.dead,add:=[.arr t []],set:=[] }).heap=Qad st.heap st.heap.length (some (.arr t [])):=rfl
 have hlen:b<(Qad st.heap st.heap.length (some (.arr t []))).length:=by
  have:=(Qc9 [.arr t []] st.heap st.heap.length).1;exact Jn hlt this
 refine⟨QdY (Qcb E [] st.heap.length t) b (.var ds) (Qcb E [] st.heap.length t).w,rfl,⟨hs1.defers,hs1.len,fun j y hy=>?_,QjV hs1.ok hb1 hr1 hsh hwr hir1,fun x=>?_,fun x hx=>?_⟩,?_⟩
 ·obtain⟨v,h1,h2⟩:=hs1.tmp j y hy;exact⟨v,h1,h2.ext (QcG hs1.ok hb1 hr1 hsh hwr)⟩
 ·show(if x=b then some (.var ds) else (Qcb E [] st.heap.length t).H x)=St.look { tmps:=st.tmps,heap:=Qad (Qad st.heap st.heap.length (some (.arr t []))) b (some (.var ds)) } x;unfold St.look;rw[Qes (α:=Nat) _ _ _ _ hlen];split
  ·rfl
  ·exact hs1.H x
 ·have:=hs1.U x hx;show x<(Qad (Qad st.heap st.heap.length (some (.arr t []))) b (some (.var ds))).length;rw[Qd7 _ _ _ hlen];exact this
 ·exact⟨QjW hs1.ok hb1 hr1 hwr hf1.fr,hf1.ext.trans (QcG hs1.ok hb1 hr1 hsh hwr)⟩
theorem PSpec.of_calls{P:Program}{f:FuncId}{fn:Func}(hf:P.funcs[f]?=some fn)(hn:(fn.name == "runtime.NumGoroutine")=false)(hb:fn.body.isSome=true)(s:PSpec)(hfr:∀xs,(s.out xs).2.2=[])
 (h:∀(E:Env) (xs:Args s.gs) (vs:Array Value),VsR E (QaO s.gs xs) vs.toList→(∀q,(s.out xs).1=some q→q)→Calls P f vs E.w fun e w'=>(∃v,e=.returned v∧AVR E (s.out xs).2.1 v)∧w'=E.w):QR P f s.spec:=by
 refine⟨?_,fn,hf,hn,hb⟩;intro E0 vs args bl p r upd fresh hH hU hok hvs hrun hp;unfold PSpec.spec at hrun;simp only at hrun;split at hrun
 ·split at hrun
  ·rename_i xs hxs;simp only[Yc,YM] at hrun;obtain⟨rfl,rfl,rfl,rfl⟩:=hrun;have hv:=Qe0 hok (fun b=>by rw[hH];simp) hxs hvs;refine(h E0 xs vs hv hp).mono ?_
   rintro e w' ⟨⟨v,rfl,hr⟩,rfl⟩
   refine⟨v,E0,rfl,rfl,hr,hok,fun b=>?_,fun b=>?_,Ext.refl E0,Qjh⟩
   ·rw[hH,hfr];simp
   ·rw[hU,hfr];simp
  ·cases hrun
 ·cases hrun
end Go.Fw

namespace Go.Proofs.YtofgbclopbmlcaaGreat
open Go.IntKind (i64)
open Go.Fw
set_option linter.unusedVariables false
set_option linter.unusedSimpArgs false
theorem QFT(c:Int):land .i64 c 1=((u64 c%2:Nat):Int):=by
 have e:u64 c &&& u64 1=u64 c%2:=by
  have:u64 1=2 ^ 1-1:=by decide
  rw[this,Nat.and_two_pow_sub_one_eq_mod]
 rw[Qfx _ _ (by rw[e];omega),e]
theorem QtV{a k:Nat}(h:a<2 ^ 63)(hk:k≤62):land .i64 (shr .i64 (a:Int) (k:Int)) 1=((a/2 ^ k%2:Nat):Int):=by
 have:a/2 ^ k<2 ^ 63:=Nat.lt_of_le_of_lt (Nat.div_le_self _ _) h;rw[QAK (by omega),QFT,Qaf (by omega)]
def Ql8(n:List Int)(m:Int):Nat→Int
 |0=>0
 |k+1=>i64.wrap (Ql8 n m k+shl .i64 (land .i64 (shr .i64 (n.getD (land .i64 (shr .i64 m k) 1).toNat 0) k) 1) k)
theorem Qph(x l m:Nat)(f:x<256)(g:l<256)(p:m<256):∀k,k≤8→Ql8 [(x:Int),l,m] m k=((((l &&& m) ||| (x ^^^ (x &&& m)))%2 ^ k:Nat):Int)
 |0,_=>by simp[Ql8,Nat.mod_one]
 |k+1,h=>by
  have ih:=Qph x l m f g p k (by omega);generalize hX:(l &&& m) ||| (x ^^^ (x &&& m))=X at ih ⊢
  have b:∃s:Nat,([(x:Int),l,m].getD (land .i64 (shr .i64 (m:Int) k) 1).toNat 0)=(s:Int)∧s<256∧s/2 ^ k%2=X/2 ^ k%2:=by
   have e1:X.testBit k=((l.testBit k&&m.testBit k)||(x.testBit k&&!m.testBit k)):=by
    rw[←hX,Nat.testBit_or,Nat.testBit_and,Qd5]
   rw[QtV (by omega) (by omega)];rcases Nat.mod_two_eq_zero_or_one (m/2 ^ k) with d|d
   ·refine⟨x,by rw[d];rfl,f,?_⟩;rw[←Nat.toNat_testBit,←Nat.toNat_testBit,e1];have:m.testBit k=false:=by rw[Nat.testBit_eq_decide_div_mod_eq,d];rfl
    rw[this];simp
   ·refine⟨l,by rw[d];rfl,g,?_⟩;rw[←Nat.toNat_testBit,←Nat.toNat_testBit,e1];have:m.testBit k=true:=by rw[Nat.testBit_eq_decide_div_mod_eq,d];rfl
    rw[this];simp
  obtain⟨s,hs,hs2,i⟩:=b;have hp:2 ^ (k+1)≤2 ^ 8:=QlM h;have j:0<2 ^ k:=Nat.pow_pos (by omega);have hb:X/2 ^ k%2≤1:=by omega
  have hmul:X/2 ^ k%2*2 ^ k≤1*2 ^ k:=YL _ hb;have hr:X%2 ^ k<2 ^ k:=Nat.mod_lt _ j;rw[Nat.pow_succ] at hp;rw[Ql8,hs,QtV (by omega) (by omega),i,ih,Qto (by omega) (by omega),w64 (by omega) (by omega),Nat.pow_succ,Nat.mod_mul,Nat.mul_comm (2 ^ k)];omega
theorem QC0(x l m:Int)(f:0≤x∧x<256)(g:0≤l∧l<256)(p:0≤m∧m<256):Ql8 [x,l,m] m 8=lor .i64 (land .i64 l m) (Q6 .i64 x m):=by
 obtain⟨x,rfl⟩:=Yz f.1;obtain⟨l,rfl⟩:=Yz g.1;obtain⟨m,rfl⟩:=Yz p.1;have h1:l &&& m<2 ^ 8:=Nat.and_lt_two_pow _ (by omega);have h2:x ^^^ (x &&& m)<2 ^ 8:=Nat.xor_lt_two_pow (by omega) (Nat.and_lt_two_pow _ (by omega));have h3:(l &&& m) ||| (x ^^^ (x &&& m))<2 ^ 8:=Nat.or_lt_two_pow h1 h2
 rw[Qph x l m (by omega) (by omega) (by omega) 8 (by omega),Nat.mod_eq_of_lt h3]
 have e1:land .i64 (l:Int) m=((l &&& m:Nat):Int):=by
  rw[Qfx _ _ (by rw[Qaf (by omega),Qaf (by omega)];omega),Qaf (by omega),Qaf (by omega)]
 have e2:Q6 .i64 (x:Int) m=((x ^^^ (x &&& m):Nat):Int):=by
  rw[Qdz _ _ (by rw[Qaf (by omega)];omega),Qaf (by omega),Qaf (by omega)]
 rw[e1,e2,Qgn _ _ (by rw[Qaf (by omega),Qaf (by omega)];omega),Qaf (by omega),Qaf (by omega)]
def Qbk(N:List Int):List Int:=[N.getD 0 0%65536,N.getD 1 0%65536,N.getD 2 0%8,N.getD 3 0%2]
def QaJ:List Int→List Int
 | [a,b,c,f]=>if c%2=0 then [a,b,c,f] else if a>0 then [a-1,b,c,f] else if c/2%2=1 then [b,b,c,1] else [a,b,c-1,1]
 |l=>l
def Qa1:Nat→List Int→List Int
 |0,l=>l
 |n+1,l=>Qa1 n (QaJ l)
theorem Qh9:∀(m n:Nat) (l:List Int),Qa1 (m+n) l=Qa1 n (Qa1 m l)
 |0,n,l=>by rw[Jh];rfl
 |m+1,n,l=>by
  have e:m+1+n=(m+n)+1:=by omega
  rw[e];exact Qh9 m n (QaJ l)
theorem Qt2{a b c f:Int}(h:c%2=0):∀n,Qa1 n [a,b,c,f]=[a,b,c,f]
 |0=>rfl
 |n+1=>by
  rw[Qa1,QaJ,Yf h];exact Qt2 h n
theorem Qpl{b c f:Int}(h:¬c%2=0):∀(n:Nat) (a:Int),(n:Int)≤a→Qa1 n [a,b,c,f]=[a-n,b,c,f]
 |0,a,_=>by rw[Qa1];simp
 |n+1,a,g=>by
  rw[Qa1,QaJ,Yb h,Yf (by omega),Qpl h n (a-1) (by omega)];have:a-1-(n:Int)=a-((n+1:Nat):Int):=by omega
  rw[this]
theorem QnC{b c f a:Int}(h:¬c%2=0)(g:0≤a)(n:Nat)(j:a<n):Qa1 n [a,b,c,f]=Qa1 (n-a.toNat-1) (QaJ [0,b,c,f]):=by
 have e:n=a.toNat+((n-a.toNat-1)+1):=by omega
 rw[e,Qh9,Qpl h a.toNat a (by omega)];have e2:a-(a.toNat:Int)=0:=by omega
 have e3:a.toNat+(n-a.toNat-1+1)-a.toNat-1=n-a.toNat-1:=by omega
 rw[e2,e3];rfl
theorem QFX{b c:Int}(h:¬c%2=0)(i:c/2%2=1)(d:0≤b):∀(m n:Nat),n≤m→Qa1 n [b,b,c,1]=[b-(n:Int)%(b+1),b,c,1]:=by
 intro m
 induction m with
 |zero =>
  intro n j;have:n=0:=by omega
  subst this;rw[Qa1];simp
 |succ m ih =>
  intro n j;by_cases s:(n:Int)≤b
  ·rw[Qpl h n b s,YC (by omega) (by omega)]
  ·rw[QnC h d n (by omega),QaJ,Yb h,Yb (by omega),Yf i,ih _ (by omega)];have e:((n-b.toNat-1:Nat):Int)=(n:Int)-(b+1):=by omega
   rw[e,Int.sub_emod_right]
theorem Qx3{a b c f:Int}(h:¬c%2=0)(i:c/2%2=1)(g:0≤a)(d:0≤b)(n:Nat)(j:a<n):Qa1 n [a,b,c,f]=[b-((n:Int)-a-1)%(b+1),b,c,1]:=by
 rw[QnC h g n j,QaJ,Yb h,Yb (by omega),Yf i,QFX h i d _ _ (YE _)];have e:((n-a.toNat-1:Nat):Int)=(n:Int)-a-1:=by omega
 rw[e]
theorem QC3{a b c f:Int}(h:¬c%2=0)(i:¬c/2%2=1)(g:0≤a)(n:Nat)(j:a<n):Qa1 n [a,b,c,f]=[0,b,c-1,1]:=by
 rw[QnC h g n j,QaJ,Yb h,Yb (by omega),Yb i];exact Qt2 (by omega) _
theorem ctl{c:Int}(h0:0≤c)(r:c<8):((land .i64 c 1==0)=decide (c%2=0))∧((land .i64 c 2 != 0)=decide (c/2%2=1))∧((land .i64 c 4 != 0)=decide (c≥4))∧(¬c%2=0→Q6 .i64 c 1=c-1):=by
 have:c=0∨c=1∨c=2∨c=3∨c=4∨c=5∨c=6∨c=7:=by omega
 rcases this with rfl|rfl|rfl|rfl|rfl|rfl|rfl|rfl<;>decide +kernel
theorem Qd8{a b c f:Int}(g:0≤a∧a<65536)(d:0≤b∧b<65536)(p:0≤c∧c<8)(q:0≤f∧f<2):Qbk [a,b,c,f]=[a,b,c,f]:=by
 show[a%65536,b%65536,c%8,f%2]=_;rw[YC g.1 g.2,YC d.1 d.2,YC p.1 p.2,YC q.1 q.2]
theorem Qrq{a b c f:Int}(g:0≤a∧a<65536)(d:0≤b∧b<65536)(p:0≤c∧c<8)(q:0≤f∧f<2):Qbk (QaJ [a,b,c,f])=QaJ [a,b,c,f]:=by
 by_cases r:c%2=0
 ·have e:QaJ [a,b,c,f]=[a,b,c,f]:=Yf r;rw[e];exact Qd8 g d p q
 ·by_cases i:a>0
  ·have e:QaJ [a,b,c,f]=[a-1,b,c,f]:=by rw[QaJ,Yb r,Yf i]
   rw[e];exact Qd8 (by omega) d p q
  ·by_cases h3:c/2%2=1
   ·have e:QaJ [a,b,c,f]=[b,b,c,1]:=by rw[QaJ,Yb r,Yb i,Yf h3]
    rw[e];exact Qd8 d d p (by omega)
   ·have e:QaJ [a,b,c,f]=[a,b,c-1,1]:=by rw[QaJ,Yb r,Yb i,Yb h3]
    rw[e];exact Qd8 g d (by omega) (by omega)
theorem Qt3{l:List Int}(h:Qbk l=l):Qbk (QaJ l)=QaJ l:=by
 have:=Qrq (a:=l.getD 0 0%65536) (b:=l.getD 1 0%65536) (c:=l.getD 2 0%8) (f:=l.getD 3 0%2) (by omega) (by omega) (by omega) (by omega);have e:[l.getD 0 0%65536,l.getD 1 0%65536,l.getD 2 0%8,l.getD 3 0%2]=l:=h;rw[e] at this;exact this
theorem QfH(N:List Int):Qbk (Qbk N)=Qbk N:=Qd8 (by omega) (by omega) (by omega) (by omega)
def Qmp(u:Nat):List Int:=if u<128 then [(u:Int)] else ((u%128+128:Nat):Int)::Qmp (u/128)
termination_by u
decreasing_by omega
theorem QbN{u:Nat}(h:u<128):Qmp u=[(u:Int)]:=by rw[Qmp,Yf h]
theorem Qcy{u:Nat}(h:¬u<128):Qmp u=((u%128+128:Nat):Int)::Qmp (u/128):=by rw[Qmp,Yb h]
theorem QpV:∀(k u:Nat),u<128 ^ (k+1)→(Qmp u).length≤k+1
 |0,u,h=>by rw[QbN (by simpa using h)];simp
 |k+1,u,h=>by
  by_cases c:u<128
  ·rw[QbN c];simp
  ·rw[Qcy c]
   have h2:u/128<128 ^ (k+1):=by
    rw[Nat.pow_succ] at h;exact Nat.div_lt_of_lt_mul (by rw[Nat.mul_comm];exact h)
   have:=QpV k (u/128) h2;simp only[Yx];omega
theorem QDA{u:Nat}(h:u<18446744073709551616):(Qmp u).length≤10:=QpV 9 u (Jn h (by decide))
theorem QyN(u:Nat):0<(Qmp u).length:=by
 by_cases c:u<128
 ·rw[QbN c];simp
 ·rw[Qcy c];simp
def zig(n:Int):Nat:=if n<0 then (-(2*n)-1).toNat else (2*n).toNat
def Q1(n:Int):Prop:=-9223372036854775808≤n∧n≤9223372036854775807
theorem QGw{n:Int}(h:Q1 n):zig n<18446744073709551616:=by
 unfold Q1 at h;unfold zig;split<;>omega
def QbO(n:Int):List Int:=Qmp (zig n)
theorem Qak{n:Int}(h:Q1 n):(QbO n).length≤10:=QDA (QGw h)
def Qz(l:List Int):List Int:=l.flatMap QbO
theorem Qe8(n:Int)(l:List Int):Qz (n::l)=QbO n++Qz l:=rfl
theorem QdF(l m:List Int):Qz (l++m)=Qz l++Qz m:=by unfold Qz;rw[List.flatMap_append]
theorem QbP{l:List Int}(h:∀n∈l,Q1 n):(Qz l).length≤10*l.length:=by
 induction l with
 |nil=>simp[Qz]
 |cons x r ih =>
  have c:=Qak (h x (YZ ..));have h2:=ih fun n f=>h n (YP _ f)
  rw[Qe8,Ym,Yx];omega
def Qil(d:Int)(u:Nat):List Int:=if u=0 then [d] else (d+128)::Qmp u
theorem QyO{d:Int}{u:Nat}(h:u≠0):Qil d u=(d+128)::Qil ((u%128:Nat):Int) (u/128):=by
 rw[Qil,Yb h,Qil];by_cases c:u<128
 ·rw[QbN c,Yf (by omega),Nat.mod_eq_of_lt c]
 ·rw[Qcy c,Yb (by omega)];rfl
theorem QnJ(u:Nat)(b:Nat)(g:b<2):Qil ((u%64*2+b:Nat):Int) (u/64)=Qmp (2*u+b):=by
 rw[Qil];by_cases h:u/64=0
 ·rw[Yf h,QbN (u:=2*u+b) (by omega),show u%64*2+b=2*u+b by omega]
 ·rw[Yb h,Qcy (u:=2*u+b) (by omega),show(2*u+b)/128=u/64 by omega,show(2*u+b)%128=u%64*2+b by omega];rfl
theorem QGx(x:Int):IntKind.u64.wrap x=x%18446744073709551616:=rfl
theorem wu8(x:Int):IntKind.u8.wrap x=x%256:=rfl
theorem QpW(x:Int):shl .u64 x 1=(x*2)%18446744073709551616:=rfl
theorem QnK(x:Int)(k:Nat)(hk:k≤64):shr .u64 x k=x/2 ^ k:=by
 unfold shr;rw[Int.toNat_natCast,show IntKind.u64.bits=64 from rfl,Nat.min_eq_left hk,Int.fdiv_eq_ediv_of_nonneg _ (by exact_mod_cast YR _)]
theorem Qcf(x:Int):shr .u64 x 7=x/128:=QnK x 7 (by decide)
theorem QpX(x:Int):shr .u64 x 6=x/64:=QnK x 6 (by decide)
theorem QpY(x:Int):shr .u64 x 1=x/2:=QnK x 1 (by decide)
theorem QuR{a b:Nat}(ha:a<2 ^ 64)(g:b<2 ^ 64):land .u64 (a:Int) (b:Int)=((a &&& b:Nat):Int):=by
 show(((BitVec.ofInt 64 (a:Int) &&& BitVec.ofInt 64 (b:Int)).toNat:Nat):Int)%18446744073709551616=_;rw[BitVec.toNat_and,QQ,QQ,Qaf ha,Qaf g];have:=Nat.and_lt_two_pow a g;omega
theorem QkB{x:Int}(h:0≤x∧x<18446744073709551616)(k:Nat)(hk:k<63):land .u64 x ((2 ^ k-1:Nat):Int)=x%((2 ^ k:Nat):Int):=by
 obtain⟨n,rfl⟩:=Yz h.1;have hp:2 ^ k≤2 ^ 63:=Nat.pow_le_pow_right (by omega) (by omega);rw[QuR (by omega) (by omega),Nat.and_two_pow_sub_one_eq_mod,Int.natCast_emod]
theorem Qjw{x:Int}(h:0≤x∧x<18446744073709551616):land .u64 x 63=x%64:=QkB h 6 (by decide)
theorem QnL{x:Int}(h:0≤x∧x<18446744073709551616):land .u64 x 127=x%128:=QkB h 7 (by decide)
theorem Qmq{x:Int}(h:0≤x∧x<18446744073709551616):land .u64 x 1=x%2:=QkB h 1 (by decide)
theorem QyP{x:Int}(h:0≤x∧x<18446744073709551616):lxor .u64 (if IntKind.u64.signed then -1 else IntKind.u64.max) x=18446744073709551615-x:=by
 obtain⟨n,rfl⟩:=Yz h.1;have f:n<2 ^ 64:=by omega
 show(((BitVec.ofInt 64 18446744073709551615 ^^^ BitVec.ofInt 64 (n:Int)).toNat:Nat):Int)%18446744073709551616=_;have e:BitVec.ofInt 64 18446744073709551615=BitVec.allOnes 64:=by decide
 rw[e,BitVec.allOnes_xor,BitVec.toNat_not,QQ,Qaf f];omega
theorem QpZ:∀x:Int,0≤x→x<256→lor .u8 x 128=x%128+128:=QdN (fun x=>lor .u8 x 128=x%128+128) (by decide +kernel)
theorem QuS(x:Int):shl .u8 x 1=(x*2)%256:=rfl
end Go.Proofs.YtofgbclopbmlcaaGreat



