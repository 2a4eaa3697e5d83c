/- Part 18 of the proof. Conditions: none. -/
import Derived.Test.YtofgbclopbmlcaaGreatG17
namespace Go.Proofs.YtofgbclopbmlcaaGreat
open Go.IntKind (i64)
open Go.Fw
set_option linter.unusedVariables false
set_option linter.unusedSimpArgs false
set_option maxRecDepth 100000
theorem Qfy(M:List Int){n:Nat}(h:n≤M.length):over (List.replicate n 0) M 0=M.take n:=by
 rw[QeV];simp[h]
def qF(M:List Int):Nat:=M.length/256
def dM(M:List Int):List Int:=M.take (qF M*256)
theorem Qnd(M:List Int):qF M*256≤M.length:=by unfold qF;omega
theorem QhI(M:List Int):(dM M).length=qF M*256:=by
 unfold dM;rw[List.length_take];have:=Qnd M;omega
theorem QlE(M:List Int)(h:M.length≤140737488355328):i64.wrap (i64.wrap (Int.tdiv (M.length:Int) 256)*256)=((qF M*256:Nat):Int):=by
 rw[Int.tdiv_eq_ediv_of_nonneg (by omega),w64 (x:=(M.length:Int)/256) (by omega) (by omega),w64 (by omega) (by omega)];unfold qF;omega
def dN(N:List Int)(q:Nat):List Int :=
 [if N.getD 0 0%256>q then 0 else N.getD 0 0%256,N.getD 1 0%4,if N.getD 2 0%8>4 then 0 else N.getD 2 0%8,N.getD 3 0%4,N.getD 4 0%16,N.getD 5 0%64,N.getD 6 0%256,N.getD 7 0%2,N.getD 8 0%2,N.getD 9 0%2]
theorem Qd0{x y:Int}(h:x=y):AV.tup [.agg [.own 0,.own 1],I1 x]=AV.tup [.agg [.own 0,.own 1],I1 y]:=by rw[h]
theorem Qt{l l' m m':List Int}(h:l=l')(h2:m=m'):[some (Blk.arr (.int .i64) l),some (Blk.arr (.int .u8) m)]=[some (Blk.arr (.int .i64) l'),some (Blk.arr (.int .u8) m')]:=by rw[h,h2]
theorem QoO(N:List Int):∀(l:List Int) (i k:Nat),k<l.length→(over l N i).getD k 0=N.getD (i+k) (l.getD k 0)
 |d::l,i,0,_=>by simp[over]
 |d::l,i,k+1,h=>by
  have:=QoO N l (i+1) k (by simpa using h);have e:i+1+k=i+(k+1):=by omega
  rw[e] at this;simpa[over] using this
theorem QBN(n k:Nat):(List.replicate n (0:Int)).getD k 0=0:=by
 rw[List.getD_eq_getElem?_getD,List.getElem?_replicate];split<;>rfl
def dL(N:List Int)(x y:Int):List Int:=[x,N.getD 1 0%4,y,N.getD 3 0%4,N.getD 4 0%16,N.getD 5 0%64,N.getD 6 0%256,N.getD 7 0%2,N.getD 8 0%2,N.getD 9 0%2]
def QiK(N C ms:List Int)(k:Nat):List Int:=QeE N (ms.take k) 0++C.drop k
theorem QlF(N C ms:List Int){k:Nat}(h:k≤ms.length)(hc:C.length=ms.length):(QiK N C ms k).length=ms.length:=by
 simp[QiK,Qcp];omega
theorem QsV(N C ms:List Int){k:Nat}(h:k<ms.length)(hc:C.length=ms.length):(QiK N C ms k).getD k 0=C.getD k 0:=by
 have hl:(QeE N (ms.take k) 0).length=k:=by rw[Qcp,List.length_take];omega
 unfold QiK;rw[List.getD_eq_getElem?_getD,List.getElem?_append_right (by omega),hl,Nat.sub_self,List.getElem?_drop,List.getD_eq_getElem?_getD];rfl
theorem QsW(N C ms:List Int){k:Nat}(h:k<ms.length)(hc:C.length=ms.length):(QiK N C ms k).set k (N.getD k 0%ms.getD k 0)=QiK N C ms (k+1):=by
 have hl:(QeE N (ms.take k) 0).length=k:=by rw[Qcp,List.length_take];omega
 unfold QiK;rw[List.set_append,if_neg (by omega),hl,Nat.sub_self,List.drop_eq_getElem_cons (by omega),List.set_cons_zero,Qgf N ms 0 k h];simp
def QqO:List Int:=[256,4,8,4,16,64,256,2,2,2]
def Qxj:List Int:=[8,2,3,2,4,6,8,1,1,1]
theorem QoP:∀k,k<10→(0≤Qxj.getD k 0∧Qxj.getD k 0≤62)∧(2:Int) ^ (Qxj.getD k 0).toNat=QqO.getD k 0:=by decide +kernel
theorem QeF(N:List Int)(q:Nat):dN N q=[if N.getD 0 0%256>q then 0 else N.getD 0 0%256,N.getD 1 0%4,if N.getD 2 0%8>4 then 0 else N.getD 2 0%8,N.getD 3 0%4,N.getD 4 0%16,N.getD 5 0%64,N.getD 6 0%256,N.getD 7 0%2,N.getD 8 0%2,N.getD 9 0%2]:=rfl
def QEs:PSpec:=⟨[gD],fun(d,_)=>(some (List.length d.2≤140737488355328),.tup [.c (.own 0),.c (.own 1)],[.arr (.int .i64) (dN d.1 (qF d.2)),.arr (.int .u8) (dM d.2)])⟩
theorem QeZ:G0 204 QEs.spec:=by
 have hP:S0 _:=Qa QN (Qb (T:=tree));have hT:=tabs hP Qc;refine QEs.gd hT hP Tryz.func204 fun(d:Dv) hp=>?_
 obtain⟨N,M⟩:=d;have hp:M.length≤140737488355328:=hp _ rfl;have hq:=QlE M hp;have hq2:=Qnd M
 have hqi:i64.wrap (Int.tdiv ((dM M).length:Int) 256)=((qF M:Nat):Int):=by
  rw[QhI,Int.tdiv_eq_ediv_of_nonneg (by omega),w64 (by omega) (by omega)];omega
 repeat' first|(apply Ea;conv=>whnf)|apply Eb|apply Ec<;>intro _|apply Ed<;>intro _|apply Ee<;>intro _|apply Ef hT hP
 ·exact of_decide_eq_true rfl
 have hC:∀k,k<10→(over (List.replicate 10 0) N 0).getD k 0=N.getD k 0:=by
  intro k hk;rw[QoO N _ 0 k (by simpa using hk),Nat.zero_add,QBN 10 k]
 have hCl:(over (List.replicate 10 0) N 0).length=10:=by rw[Qcl];rfl
 refine Qai hT hP (X:=Int×List Int) (fun(i,n)=>St.mk (E1 ((.cell (.ptr 0 0))::E2 ((.cell (.own 1))::E5 (E3 ((.agg [.run .i64 10 [8,2,3,2,4,6,8,1,1,1]])::(I i)::E40 []))))) [some (.var [.ro (.int .i64) N,.ro (.int .u8) M]),some (.arr (.int .i64) n)])
  (fun(i,n)=>∃k:Nat,i=k∧k≤10∧n=QiK N (over (List.replicate 10 0) N 0) QqO k) (fun(i,_)=>(10-i).toNat) (0,over (List.replicate 10 0) N 0) (Le.k [] [0,1] ?_) ?_ fun(i,n) hi=>?_
 rotate_right
 repeat' first|(apply Ea;conv=>whnf)|apply Eb|apply Ec<;>intro _|apply Ed<;>intro _|apply Ee<;>intro _|apply Ef hT hP
 rotate_right 2
 ·repeat' constructor
 ·exact⟨0,rfl,by omega,rfl⟩
 all_goals first
  |exact of_decide_eq_true rfl
  |(obtain⟨k,rfl,hk,rfl⟩:=hi;omega)
  |(obtain⟨k,rfl,hk,rfl⟩:=hi;rw[QlF _ _ _ hk hCl];show _∧_<((10:Nat):Int);omega)
  |(obtain⟨k,rfl,hk,rfl⟩:=hi;rw[QlF _ _ _ hk hCl];show _<10;omega)
  |skip
 ·obtain⟨k,rfl,hk,rfl⟩:=hi;exact(QoP k (by omega)).1
 ·obtain⟨k,rfl,hk,rfl⟩:=hi;have e:i64.wrap ((k:Int)+1)=((k+1:Nat):Int):=by rw[w64 (by omega) (by omega)];omega
  have hk2:k<10:=by omega
  apply Exists.intro (_,_);refine And.intro ?_ (And.intro ?_ (Le.k [] [0,1] ?hh))
  case hh=>repeat' constructor
  ·refine⟨k+1,e,by omega,?_⟩;show(QiK N (over (List.replicate 10 0) N 0) QqO k).set k ((QiK N (over (List.replicate 10 0) N 0) QqO k).getD k 0%2 ^ (Qxj.getD k 0).toNat)=_;rw[QsV N _ QqO hk2 hCl,hC k hk2,(QoP k hk2).2];exact QsW N _ QqO hk2 hCl
  ·show(10-i64.wrap ((k:Int)+1)).toNat<(10-(k:Int)).toNat;rw[e];omega
 all_goals
  obtain⟨k,rfl,hk,rfl⟩:=hi;obtain rfl:k=10:=by omega
  have hm:over (List.replicate (i64.wrap (i64.wrap (Int.tdiv (M.length:Int) 256)*256)).toNat 0) M 0=dM M:=by
   rw[hq];exact Qfy M hq2
  try exact of_decide_eq_true rfl
 ·have e:ty5.bytes=1:=rfl;rw[e,show(List.length (N,M).2)=M.length from rfl,hq];omega
 ·rename_i h1 h2;have h1:N.getD 0 0%256>i64.wrap (Int.tdiv ((over (List.replicate (i64.wrap (i64.wrap (Int.tdiv (M.length:Int) 256)*256)).toNat 0) M 0).length:Int) 256):=h1;have h2:N.getD 2 0%8>4:=h2;rw[hm,hqi] at h1;refine .mk [] [1,2] _ R R R R R (Qt (l:=dL N 0 0) (l':=dN N (qF M)) ?_ hm) rfl;rw[QeF,if_pos h1,if_pos h2];rfl
 ·rename_i h1 h2;have h1:N.getD 0 0%256>i64.wrap (Int.tdiv ((over (List.replicate (i64.wrap (i64.wrap (Int.tdiv (M.length:Int) 256)*256)).toNat 0) M 0).length:Int) 256):=h1;have h2:¬N.getD 2 0%8>4:=h2;rw[hm,hqi] at h1;refine .mk [] [1,2] _ R R R R R (Qt (l:=dL N 0 (N.getD 2 0%8)) (l':=dN N (qF M)) ?_ hm) rfl;rw[QeF,if_pos h1,if_neg h2];rfl
 ·rename_i h1 h2;have h1:¬N.getD 0 0%256>i64.wrap (Int.tdiv ((over (List.replicate (i64.wrap (i64.wrap (Int.tdiv (M.length:Int) 256)*256)).toNat 0) M 0).length:Int) 256):=h1;have h2:N.getD 2 0%8>4:=h2;rw[hm,hqi] at h1;refine .mk [] [1,2] _ R R R R R (Qt (l:=dL N (N.getD 0 0%256) 0) (l':=dN N (qF M)) ?_ hm) rfl;rw[QeF,if_neg h1,if_pos h2];rfl
 ·rename_i h1 h2;have h1:¬N.getD 0 0%256>i64.wrap (Int.tdiv ((over (List.replicate (i64.wrap (i64.wrap (Int.tdiv (M.length:Int) 256)*256)).toNat 0) M 0).length:Int) 256):=h1;have h2:¬N.getD 2 0%8>4:=h2;rw[hm,hqi] at h1;refine .mk [] [1,2] _ R R R R R (Qt (l:=dL N (N.getD 0 0%256) (N.getD 2 0%8)) (l':=dN N (qF M)) ?_ hm) rfl;rw[QeF,if_neg h1,if_neg h2];rfl
def QEt:PSpec:=⟨[gb],fun(b,_)=>(some (List.length b≤140737488355328),.agg [.own 0,.own 1],[.arr (.int .i64) [0,0,0,0,0,0,0,0,0,0],.arr (.int .u8) (dM b)])⟩
theorem QBO:G0 115 QEt.spec:=by
 have hP:S0 _:=(Qb (T:=tree))
 have hT:=tabs hP Qc;refine QEt.gd hT hP Tryz.func115 fun(M:List Int) hp=>?_
 have hp:M.length≤140737488355328:=hp _ rfl;have hq:=QlE M hp;have hq2:=Qnd M
 repeat' first|(apply Ea;conv=>whnf)|apply Eb|apply Ec<;>intro _|apply Ed<;>intro _|apply Ee<;>intro _|apply Ef hT hP
 all_goals first
  |exact of_decide_eq_true rfl
  |skip
 ·have e:ty5.bytes=1:=rfl;rw[e,hq];omega
 ·have hm:over (List.replicate (i64.wrap (i64.wrap (Int.tdiv (M.length:Int) 256)*256)).toNat 0) M 0=dM M:=by
   rw[hq];exact Qfy M hq2
  exact .mk [] [2,1] _ R R R R R (Qt (l:=[0,0,0,0,0,0,0,0,0,0]) rfl hm) rfl
def QEu:PSpec:=⟨[gl],fun(n,_)=>(some (2<List.length n),I (imin 1 (List.getD n 2 0)),[])⟩
theorem QBP:G0 236 QEu.spec:=by
 have hP:S0 _:=(Qb (T:=tree))
 have hT:=tabs hP Qc;refine QEu.gd hT hP Tryz.func236 fun(n:List Int) hp=>?_
 have hp:2<n.length:=hp _ rfl
 repeat' first|(apply Ea;conv=>whnf)|apply Eb|apply Ec<;>intro _|apply Ed<;>intro _|apply Ee<;>intro _|apply Ef hT hP
 ·omega
 ·exact .k [] [] _ R R
theorem Qj2:([256,4,8,4,16,64,256,2,2,2]:List Int).length≤1000∧∀m∈([256,4,8,4,16,64,256,2,2,2]:List Int),0<m∧m≤4611686018427387904:=by decide
def QlG:PSpec:=⟨[gC,gD],fun(c,d,_)=>(some (c.2.1=8∧List.length d.2≤140737488355328∧qF d.2=0),.agg [.own 0,.imm (.slice none 0 0)],[.arr (.int .i64) (dN d.1 (qF d.2))])⟩
theorem QhJ:G0 58 QlG.spec:=by
 have hP:S0 _:=Qa QcO (Qb (T:=tree));have hT:=tabs hP Qc;refine QlG.gd hT hP Tryz.func58 fun(c:Cv) (d:Dv) hp=>?_
 obtain⟨cn,ck,cb,cs,cd⟩:=c;obtain⟨N,M⟩:=d;obtain⟨rfl,hl,h0⟩:ck=8∧M.length≤140737488355328∧qF M=0:=hp _ rfl;have hq:=QlE M hl;rw[h0] at hq
 repeat' first|(apply Ea;conv=>whnf)|apply Eb|apply Ec<;>intro _|apply Ed<;>intro _|apply Ee<;>intro _|apply Ef hT hP
 all_goals first
  |exact Qj2
  |exact of_decide_eq_true rfl
  |skip
 all_goals first
  |(exfalso;rename_i h;have h:i64.wrap (i64.wrap (Int.tdiv (M.length:Int) 256)*256)>0:=h;rw[hq] at h;omega)
  |(rename_i h1 h2 h
    have h1:i64.wrap (N.getD 0 0%256*256)>i64.wrap (i64.wrap (Int.tdiv (M.length:Int) 256)*256):=h1;have h2:N.getD 2 0%8>4:=h2;rw[hq,w64 (by omega) (by omega)] at h1;refine .mk [] [5] _ R R R R R (Ql (l:=dL N 0 0) (l':=dN N (qF M)) ?_) rfl
    rw[QeF,if_pos (by omega),if_pos h2];rfl)
  |(rename_i h1 h2 h
    have h1:i64.wrap (N.getD 0 0%256*256)>i64.wrap (i64.wrap (Int.tdiv (M.length:Int) 256)*256):=h1;have h2:¬N.getD 2 0%8>4:=h2;rw[hq,w64 (by omega) (by omega)] at h1;refine .mk [] [5] _ R R R R R (Ql (l:=dL N 0 (N.getD 2 0%8)) (l':=dN N (qF M)) ?_) rfl
    rw[QeF,if_pos (by omega),if_neg h2];rfl)
  |(rename_i h1 h2 h
    have h1:¬i64.wrap (N.getD 0 0%256*256)>i64.wrap (i64.wrap (Int.tdiv (M.length:Int) 256)*256):=h1;have h2:N.getD 2 0%8>4:=h2;rw[hq,w64 (by omega) (by omega)] at h1;refine .mk [] [5] _ R R R R R (Ql (l:=dL N (N.getD 0 0%256) 0) (l':=dN N (qF M)) ?_) rfl
    rw[QeF,if_neg (by omega),if_pos h2];rfl)
  |(rename_i h1 h2 h
    have h1:¬i64.wrap (N.getD 0 0%256*256)>i64.wrap (i64.wrap (Int.tdiv (M.length:Int) 256)*256):=h1;have h2:¬N.getD 2 0%8>4:=h2;rw[hq,w64 (by omega) (by omega)] at h1;refine .mk [] [5] _ R R R R R (Ql (l:=dL N (N.getD 0 0%256) (N.getD 2 0%8)) (l':=dN N (qF M)) ?_) rfl
    rw[QeF,if_neg (by omega),if_neg h2];rfl)
def QlH:PSpec:=⟨[gC,gD],fun(c,d,_)=>(some (c.2.1=8∧List.length d.2≤140737488355328∧0<qF d.2),.agg [.own 0,.own 1],[.arr (.int .i64) (dN d.1 (qF d.2)),.arr (.int .u8) (dM d.2)])⟩
theorem Qe0:G0 58 QlH.spec:=by
 have hP:S0 _:=Qa QcO (Qb (T:=tree));have hT:=tabs hP Qc;refine QlH.gd hT hP Tryz.func58 fun(c:Cv) (d:Dv) hp=>?_
 obtain⟨cn,ck,cb,cs,cd⟩:=c;obtain⟨N,M⟩:=d;obtain⟨rfl,hl,h0⟩:ck=8∧M.length≤140737488355328∧0<qF M:=hp _ rfl;have hq:=QlE M hl;have hq2:=Qnd M
 have hm:over (List.replicate (i64.wrap (i64.wrap (Int.tdiv (M.length:Int) 256)*256)).toNat 0) M 0=dM M:=by
  rw[hq];exact Qfy M hq2
 repeat' first|(apply Ea;conv=>whnf)|apply Eb|apply Ec<;>intro _|apply Ed<;>intro _|apply Ee<;>intro _|apply Ef hT hP
 all_goals first
  |exact Qj2
  |exact of_decide_eq_true rfl
  |skip
 all_goals first
  |(exfalso;rename_i h;have h:¬i64.wrap (i64.wrap (Int.tdiv (M.length:Int) 256)*256)>0:=h;rw[hq] at h;omega)
  |(have e:ty5.bytes=1:=rfl
    rw[e,show(List.length (N,M).2)=M.length from rfl,hq];omega)
  |(rename_i h1 h2 h
    have h1:i64.wrap (N.getD 0 0%256*256)>i64.wrap (i64.wrap (Int.tdiv (M.length:Int) 256)*256):=h1;have h2:N.getD 2 0%8>4:=h2;rw[hq,w64 (by omega) (by omega)] at h1;refine .mk [] [5,6] _ R R R R R (Qt (l:=dL N 0 0) (l':=dN N (qF M)) ?_ hm) rfl
    rw[QeF,if_pos (by omega),if_pos h2];rfl)
  |(rename_i h1 h2 h
    have h1:i64.wrap (N.getD 0 0%256*256)>i64.wrap (i64.wrap (Int.tdiv (M.length:Int) 256)*256):=h1;have h2:¬N.getD 2 0%8>4:=h2;rw[hq,w64 (by omega) (by omega)] at h1;refine .mk [] [5,6] _ R R R R R (Qt (l:=dL N 0 (N.getD 2 0%8)) (l':=dN N (qF M)) ?_ hm) rfl
    rw[QeF,if_pos (by omega),if_neg h2];rfl)
  |(rename_i h1 h2 h
    have h1:¬i64.wrap (N.getD 0 0%256*256)>i64.wrap (i64.wrap (Int.tdiv (M.length:Int) 256)*256):=h1;have h2:N.getD 2 0%8>4:=h2;rw[hq,w64 (by omega) (by omega)] at h1;refine .mk [] [5,6] _ R R R R R (Qt (l:=dL N (N.getD 0 0%256) 0) (l':=dN N (qF M)) ?_ hm) rfl
    rw[QeF,if_neg (by omega),if_pos h2];rfl)
  |(rename_i h1 h2 h
    have h1:¬i64.wrap (N.getD 0 0%256*256)>i64.wrap (i64.wrap (Int.tdiv (M.length:Int) 256)*256):=h1;have h2:¬N.getD 2 0%8>4:=h2;rw[hq,w64 (by omega) (by omega)] at h1;refine .mk [] [5,6] _ R R R R R (Qt (l:=dL N (N.getD 0 0%256) (N.getD 2 0%8)) (l':=dN N (qF M)) ?_ hm) rfl
    rw[QeF,if_neg (by omega),if_neg h2];rfl)
end Go.Proofs.YtofgbclopbmlcaaGreat

namespace Go.Fw
open Go.IntKind (i64)
set_option linter.unusedVariables false
set_option linter.unusedSimpArgs false
theorem QQ.cases{P:Program}{f:Nat}{gs:List Sig}{o o1 o2:Args gs→Option Prop×AV×List Blk}(h1:QQ P f (PSpec.spec ⟨gs,o1⟩))(h2:QQ P f (PSpec.spec ⟨gs,o2⟩))
 (h:∀xs,(∀q,(o xs).1=some q→q)→((∀q,(o1 xs).1=some q→q)∧(o1 xs).2=(o xs).2)∨((∀q,(o2 xs).1=some q→q)∧(o2 xs).2=(o xs).2)):QQ P f (PSpec.spec ⟨gs,o⟩):=by
 refine⟨?_,h1.2⟩;intro E0 vs args bl p r upd fresh hH hU hok hvs hrun hp;unfold PSpec.spec at hrun;simp only at hrun;split at hrun
 ·split at hrun
  ·rename_i xs hxs;simp only[Option.some.injEq,Prod.mk.injEq] at hrun;obtain⟨rfl,rfl,rfl,rfl⟩:=hrun
   have run:∀o':Args gs→Option Prop×AV×List Blk,(o' xs).2=(o xs).2→(PSpec.spec ⟨gs,o'⟩).run args []=some ((o' xs).1,(o xs).2.1,[],(o xs).2.2):=by
    intro o' he;unfold PSpec.spec;simp only[hxs,he]
   rcases h xs hp with⟨hp',he⟩|⟨hp',he⟩
   ·exact h1.1 E0 vs args [] _ _ _ _ hH hU hok hvs (run o1 he) hp'
   ·exact h2.1 E0 vs args [] _ _ _ _ hH hU hok hvs (run o2 he) hp'
  ·cases hrun
 ·cases hrun
theorem QQ.map{P:Program}{f:Nat}{gs:List Sig}{o o':Args gs→Option Prop×AV×List Blk}(h1:QQ P f (PSpec.spec ⟨gs,o⟩))
 (h:∀xs,(∀q,(o' xs).1=some q→q)→(∀q,(o xs).1=some q→q)∧(o xs).2.2=(o' xs).2.2∧∀E v,AVR E (o xs).2.1 v→AVR E (o' xs).2.1 v):QQ P f (PSpec.spec ⟨gs,o'⟩):=by
 refine⟨?_,h1.2⟩;intro E0 vs args bl p r upd fresh hH hU hok hvs hrun hp;unfold PSpec.spec at hrun;simp only at hrun;split at hrun
 ·split at hrun
  ·rename_i xs hxs;simp only[Option.some.injEq,Prod.mk.injEq] at hrun;obtain⟨rfl,rfl,rfl,rfl⟩:=hrun;obtain⟨k1,k2,k3⟩:=h xs hp
   have run:(PSpec.spec ⟨gs,o⟩).run args []=some ((o xs).1,(o xs).2.1,[],(o' xs).2.2):=by
    unfold PSpec.spec;simp only[hxs,k2]
   refine(h1.1 E0 vs args [] _ _ _ _ hH hU hok hvs run k1).mono ?_
   rintro e w' ⟨v,E',he,hw,hb⟩
   exact⟨v,E',he,hw,k3 E' v hb.val,hb.ok,hb.H,hb.U,hb.ext,hb.fr⟩
  ·cases hrun
 ·cases hrun
theorem QQ.nil{P:Program}{f:Nat}{gs:List Sig}{o o':Args gs→Option Prop×AV×List Blk}(t:Ty)(h1:QQ P f (PSpec.spec ⟨gs,o⟩))
 (h:∀xs,(∀q,(o' xs).1=some q→q)→(∀q,(o xs).1=some q→q)∧noA (o xs).2.2.length (o xs).2.1=some (o' xs).2.1∧(o xs).2.2++[.arr t []]=(o' xs).2.2):QQ P f (PSpec.spec ⟨gs,o'⟩):=by
 refine⟨?_,h1.2⟩;intro E0 vs args bl p r upd fresh hH hU hok hvs hrun hp;unfold PSpec.spec at hrun;simp only at hrun;split at hrun
 ·split at hrun
  ·rename_i xs hxs;simp only[Option.some.injEq,Prod.mk.injEq] at hrun;obtain⟨rfl,rfl,rfl,rfl⟩:=hrun;obtain⟨k1,k2,k3⟩:=h xs hp
   have run:(PSpec.spec ⟨gs,o⟩).run args []=some ((o xs).1,(o xs).2.1,[],(o xs).2.2):=by
    unfold PSpec.spec;simp only[hxs]
   refine(h1.1 E0 vs args [] _ _ _ _ hH hU hok hvs run k1).mono ?_
   rintro e w' ⟨v,E',he,hw,hb⟩
   have:=Back.nil hb t (r:=(o' xs).2.1) (by simpa using k2);rw[k3] at this;exact⟨v,Qb4 E' [] _ t,he,hw,this⟩
  ·cases hrun
 ·cases hrun
inductive Conv:AV×List Blk→AV×List Blk→Prop where
 |refl {x:AV×List Blk}:Conv x x
 |nil {r r2:AV} {fr:List Blk} {y:AV×List Blk} (t:Ty) (h:noA fr.length r=some r2) (h2:Conv (r2,fr++[.arr t []]) y):Conv (r,fr) y
theorem Back.conv{E0:Env}{upd:List (Option Blk)}{x y:AV×List Blk}(h:Conv x y):∀{E:Env} {v:Value},Back E0 0 x.1 upd x.2 v E→∃E',E'.w=E.w∧Back E0 0 y.1 upd y.2 v E':=by
 induction h with
 |refl=>intro E v hb;exact⟨E,rfl,hb⟩
 |nil t h h2 ih =>
  intro E v hb;obtain⟨E',e,hb'⟩:=ih (Back.nil hb t (by simpa using h));exact⟨E',e,hb'⟩
theorem QQ.sel{P:Program}{f:Nat}{s0:CSpec}{gs:List Sig}{o:Args gs→Option Prop×AV×List Blk}(h0:QQ P f s0)
 (h:∀xs,(∀q,(o xs).1=some q→q)→∃o1:Args gs→Option Prop×AV×List Blk,QQ P f (PSpec.spec ⟨gs,o1⟩)∧(∀q,(o1 xs).1=some q→q)∧Conv (o1 xs).2 (o xs).2):QQ P f (PSpec.spec ⟨gs,o⟩):=by
 refine⟨?_,h0.2⟩;intro E0 vs args bl p r upd fresh hH hU hok hvs hrun hp;unfold PSpec.spec at hrun;simp only at hrun;split at hrun
 ·split at hrun
  ·rename_i xs hxs;simp only[Option.some.injEq,Prod.mk.injEq] at hrun;obtain⟨rfl,rfl,rfl,rfl⟩:=hrun;obtain⟨o1,g1,k1,k2⟩:=h xs hp
   have run:(PSpec.spec ⟨gs,o1⟩).run args []=some ((o1 xs).1,(o1 xs).2.1,[],(o1 xs).2.2):=by
    unfold PSpec.spec;simp only[hxs]
   refine(g1.1 E0 vs args [] _ _ _ _ hH hU hok hvs run k1).mono ?_
   rintro e w' ⟨v,E',he,hw,hb⟩
   obtain⟨E2,e2,hb2⟩:=Back.conv k2 hb;exact⟨v,E2,he,e2.trans hw,hb2⟩
  ·cases hrun
 ·cases hrun
theorem AVR.nil_ro{E:Env}{a:Cell}{t:Ty}{v:Value}(h:AVR E (.agg [a,.imm (.slice none 0 0)]) v):AVR E (.agg [a,.ro t []]) v:=by
 obtain⟨vals,e,r,s,e1,h1,r2,s2,e2,h2,h3⟩:=h;refine⟨vals,e,r,s,e1,h1,r2,s2,e2,?_,h3⟩;obtain⟨e3,_⟩:=h2;exact⟨_,e3,none,0,rfl,Nat.le_refl _,fun hne=>absurd rfl hne⟩
end Go.Fw



