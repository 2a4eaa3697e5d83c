/- Part 24 of the proof. Conditions: none. -/
import Derived.Test.YtofgbclopbmlcaaGreatG23
import Derived.Test.YtofgbclopbmlcaaGreatG19
import Derived.Test.YtofgbclopbmlcaaGreatG17
import Derived.Laws.Bits64
namespace Go.Proofs.YtofgbclopbmlcaaGreat
open Go.IntKind (i64)
set_option maxHeartbeats 8000000
open Go.Fw
set_option linter.unusedVariables false
set_option linter.unusedSimpArgs false
def Qnw(u:Nat):List Int:=if u<128 then [(u:Int)] else ((u%128+128:Nat):Int)::Qnw (u/128)
termination_by u
decreasing_by omega
theorem Qdy{u:Nat}(h:u<128):Qnw u=[(u:Int)]:=by rw[Qnw,if_pos h]
theorem Qd6{u:Nat}(h:¬u<128):Qnw u=((u%128+128:Nat):Int)::Qnw (u/128):=by rw[Qnw,if_neg h]
theorem QpJ:∀(k u:Nat),u<128 ^ (k+1)→(Qnw u).length≤k+1
 |0,u,h=>by rw[Qdy (by simpa using h)];simp
 |k+1,u,h=>by
  by_cases h1:u<128
  ·rw[Qdy h1];simp
  ·rw[Qd6 h1]
   have h2:u/128<128 ^ (k+1):=by
    rw[Nat.pow_succ] at h;exact Nat.div_lt_of_lt_mul (by rw[Nat.mul_comm];exact h)
   have:=QpJ k (u/128) h2;simp only[List.length_cons];omega
theorem QCH{u:Nat}(h:u<18446744073709551616):(Qnw u).length≤10:=QpJ 9 u (Nat.lt_of_lt_of_le h (by decide))
def zig(n:Int):Nat:=if n<0 then (-(2*n)-1).toNat else (2*n).toNat
def Qam(n:Int):Prop:=-9223372036854775808≤n∧n≤9223372036854775807
theorem QFn{n:Int}(h:Qam n):zig n<18446744073709551616:=by
 unfold Qam at h;unfold zig;split<;>omega
def Qfd(n:Int):List Int:=Qnw (zig n)
theorem QaU{n:Int}(h:Qam n):(Qfd n).length≤10:=QCH (QFn h)
def QZ(l:List Int):List Int:=l.flatMap Qfd
theorem Qe3(n:Int)(l:List Int):QZ (n::l)=Qfd n++QZ l:=rfl
theorem Qkk(l m:List Int):QZ (l++m)=QZ l++QZ m:=by unfold QZ;rw[List.flatMap_append]
theorem Qdb{l:List Int}(h:∀n∈l,Qam n):(QZ l).length≤10*l.length:=by
 induction l with
 |nil=>simp[QZ]
 |cons x r ih =>
  have h1:=QaU (h x (List.mem_cons_self ..));have h2:=ih fun n hn=>h n (List.mem_cons_of_mem _ hn)
  rw[Qe3,List.length_append,List.length_cons];omega
def Qh6(d:Int)(u:Nat):List Int:=if u=0 then [d] else (d+128)::Qnw u
theorem Qyo{d:Int}{u:Nat}(h:u≠0):Qh6 d u=(d+128)::Qh6 ((u%128:Nat):Int) (u/128):=by
 rw[Qh6,if_neg h,Qh6];by_cases h1:u<128
 ·rw[Qdy h1,if_pos (by omega),Nat.mod_eq_of_lt h1]
 ·rw[Qd6 h1,if_neg (by omega)];rfl
theorem Qnx(u:Nat)(b:Nat)(hb:b<2):Qh6 ((u%64*2+b:Nat):Int) (u/64)=Qnw (2*u+b):=by
 rw[Qh6];by_cases h:u/64=0
 ·rw[if_pos h,Qdy (u:=2*u+b) (by omega),show u%64*2+b=2*u+b by omega]
 ·rw[if_neg h,Qd6 (u:=2*u+b) (by omega),show(2*u+b)/128=u/64 by omega,show(2*u+b)%128=u%64*2+b by omega];rfl
theorem QJQ(x:Int):IntKind.u64.wrap x=x%18446744073709551616:=rfl
theorem wu8(x:Int):IntKind.u8.wrap x=x%256:=rfl
theorem Quy(x:Int)(k:Nat)(hk:k≤64):shr .u64 x k=x/2 ^ k:=by
 unfold shr;rw[Int.toNat_natCast,show IntKind.u64.bits=64 from rfl,Nat.min_eq_left hk,Int.fdiv_eq_ediv_of_nonneg _ (by exact_mod_cast Nat.zero_le _)]
theorem Qkl(x:Int):shr .u64 x 7=x/128:=Quy x 7 (by decide)
theorem QpK(x:Int):shr .u64 x 6=x/64:=Quy x 6 (by decide)
theorem Quz{a b:Nat}(ha:a<2 ^ 64)(hb:b<2 ^ 64):land .u64 (a:Int) (b:Int)=((a &&& b:Nat):Int):=by
 show(((BitVec.ofInt 64 (a:Int) &&& BitVec.ofInt 64 (b:Int)).toNat:Nat):Int)%18446744073709551616=_;rw[BitVec.toNat_and,Qac,Qac,Qas ha,Qas hb];have:=Nat.and_lt_two_pow a hb;omega
theorem QpL{x:Int}(h:0≤x∧x<18446744073709551616)(k:Nat)(hk:k<63):land .u64 x ((2 ^ k-1:Nat):Int)=x%((2 ^ k:Nat):Int):=by
 obtain⟨n,rfl⟩:=Int.eq_ofNat_of_zero_le h.1;have hp:2 ^ k≤2 ^ 63:=Nat.pow_le_pow_right (by omega) (by omega);rw[Quz (by omega) (by omega),Nat.and_two_pow_sub_one_eq_mod,Int.natCast_emod]
theorem Qji{x:Int}(h:0≤x∧x<18446744073709551616):land .u64 x 63=x%64:=QpL h 6 (by decide)
theorem Qny{x:Int}(h:0≤x∧x<18446744073709551616):land .u64 x 127=x%128:=QpL h 7 (by decide)
theorem Qyp:∀x:Int,0≤x→x<256→lor .u8 x 128=x%128+128:=Qd4 (fun x=>lor .u8 x 128=x%128+128) (by decide +kernel)
theorem QuA(x:Int):shl .u8 x 1=(x*2)%256:=rfl
set_option linter.constructorNameAsVariable false
set_option maxRecDepth 100000
structure PutX where
 nil:Bool
 l:List Int
 n:Int
theorem QuB{l l':List Int}(h:l=l'):[some (Blk.arr (.int .u8) l)]=[some (Blk.arr (.int .u8) l')]:=by rw[h]
def Qyq(n:Int)(l:List Int)(d u:Int):Prop:=(0≤u∧u<18446744073709551616)∧(0≤d∧d<128)∧l++Qh6 d u.toNat=Qfd n
theorem Qyr{l:List Int}{n d u:Int}(hn:Qam n)(h:Qyq n l d u):l.length+1≤10:=by
 have h1:=congrArg List.length h.2.2;rw[List.length_append] at h1;have h3:=QaU hn;have h2:0<(Qh6 d u.toNat).length:=by unfold Qh6;split<;>simp
 omega
theorem Qys(l:List Int)(d v:Int){i:Int}(h:i=(l.length:Int)):(l++[d]).set i.toNat v=l++[v]:=by
 subst h;rw[Int.toNat_natCast,List.set_append,if_neg (by omega),Nat.sub_self];rfl
theorem Qyt(l:List Int)(d:Int){i:Int}(h:i=(l.length:Int)):(l++[d]).getD i.toNat 0=d:=by
 subst h;rw[Int.toNat_natCast,List.getD_eq_getElem?_getD,List.getElem?_append_right (by omega),Nat.sub_self];rfl
theorem QuC{l:List Int}{d:Int}(h:l.length≤100):i64.wrap (((l++[d]).length:Int)-1)=(l.length:Int):=by
 have e:((l++[d]).length:Int)=(l.length:Int)+1:=by simp
 rw[e,w64 (by omega) (by omega)];omega
theorem QCI{l:List Int}{n d u:Int}(h:Qyq n l d u)(hu:u>0):Qyq n (l++[lor .u8 d 128]) (IntKind.u8.wrap (land .u64 u 127)) (shr .u64 u 7):=by
 obtain⟨h1,h2,h3⟩:=h;have a1:lor .u8 d 128=d+128:=by rw[Qyp _ h2.1 (by omega)];omega
 have a2:IntKind.u8.wrap (land .u64 u 127)=((u.toNat%128:Nat):Int):=by rw[Qny h1,wu8];omega
 have a3:(shr .u64 u 7).toNat=u.toNat/128:=by rw[Qkl];omega
 refine⟨by rw[Qkl];omega,by rw[a2];omega,?_⟩;rw[a1,a2,a3,←h3,Qyo (u:=u.toNat) (d:=d) (by omega),List.append_assoc];rfl
theorem Qyu{l:List Int}{n d u:Int}(h:Qyq n l d u)(hu:¬u>0):l++[d]=Qfd n:=by
 obtain⟨h1,h2,h3⟩:=h;rw[←h3,Qh6,if_pos (by omega)]
theorem QFo{l:List Int}{d:Int}(h:l.length≤100):(l++[d]).set (i64.wrap (((l++[d]).length:Int)-1)).toNat (lor .u8 ((l++[d]).getD (i64.wrap (((l++[d]).length:Int)-1)).toNat 0) 128)=l++[lor .u8 d 128]:=by
 rw[Qyt l d (QuC h),Qys l d _ (QuC h)]
theorem Qjj{n U:Int}{b:Nat}(hb:b<2)(hU:0≤U∧U<9223372036854775808)(he:zig n=2*U.toNat+b):Qyq n [] (U%64*2+b) (U/64):=by
 refine⟨by omega,by omega,?_⟩;show Qh6 _ _=Qnw _;have e1:U%64*2+(b:Int)=((U.toNat%64*2+b:Nat):Int):=by omega
 have e2:(U/64).toNat=U.toNat/64:=by omega
 rw[he,←Qnx U.toNat b hb,e1,e2]
theorem Qyv{n:Int}(hn:Qam n)(h:¬n<0):Qyq n [] (shl .u8 (IntKind.u8.wrap (land .u64 (IntKind.u64.wrap n) 63)) 1) (shr .u64 (IntKind.u64.wrap n) 6):=by
 unfold Qam at hn;have e:IntKind.u64.wrap n=n:=by rw[QJQ];omega
 have a1:shl .u8 (IntKind.u8.wrap (land .u64 (IntKind.u64.wrap n) 63)) 1=n%64*2+((0:Nat):Int):=by rw[e,Qji (by omega),wu8,QuA];omega
 rw[a1,e,QpK];exact Qjj (by decide) (by omega) (by unfold zig;rw[if_neg h];omega)
theorem Qyw{n:Int}(hn:Qam n)(h:n<0):Qyq n [] (IntKind.u8.wrap (shl .u8 (IntKind.u8.wrap (land .u64 (IntKind.u64.wrap (i64.wrap (0-i64.wrap (n+1)))) 63)) 1+1)) (shr .u64 (IntKind.u64.wrap (i64.wrap (0-i64.wrap (n+1)))) 6):=by
 unfold Qam at hn
 have e:IntKind.u64.wrap (i64.wrap (0-i64.wrap (n+1)))=-n-1:=by
  rw[w64 (x:=n+1) (by omega) (by omega),w64 (by omega) (by omega),QJQ];omega
 have a1:IntKind.u8.wrap (shl .u8 (IntKind.u8.wrap (land .u64 (IntKind.u64.wrap (i64.wrap (0-i64.wrap (n+1)))) 63)) 1+1)=(-n-1)%64*2+((1:Nat):Int):=by rw[e,Qji (by omega),wu8,wu8,QuA];omega
 rw[a1,e,QpK];exact Qjj (by decide) (by omega) (by unfold zig;rw[if_pos h];omega)
def QFp:PSpec:=⟨[gi],fun(n,_)=>(some (Qam n),.cell (.own 0),[.arr (.int .u8) (Qfd n)])⟩
theorem QCJ:G0 121 QFp.spec:=by
 have hP:S0 _:=(Qb (T:=tree))
 have hT:=tabs hP Qc;refine QFp.gd hT hP Tryz.func121 fun(n:Int) hq=>?_
 have hn:Qam n:=hq _ rfl;clear hq;have hn':=hn;unfold Qam at hn'
 repeat' first|(apply Ea;conv=>whnf)|apply Eb|apply Ec<;>intro _|apply Ed<;>intro _|apply Ee<;>intro _|apply Ef hT hP
 all_goals first
  |exact of_decide_eq_true rfl
  |skip
 all_goals first
  |(exfalso;simp_all;done)
  |refine Qai hT hP (X:=List Int×Int×Int) (fun(l,d,u)=>St.mk (E3 ((.cell (.own 0))::(.cell (iv .u64 u))::E40 (E3 []))) [some (.arr (.int .u8) (l++[d]))]) (fun(l,d,u)=>Qyq n l d u) (fun(l,d,u)=>u.toNat) ([],shl .u8 (IntKind.u8.wrap (land .u64 (IntKind.u64.wrap n) 63)) 1,shr .u64 (IntKind.u64.wrap n) 6) (Le.mk [] [1] R R (by exact rfl) (by repeat' constructor)) (Qyv hn (by assumption)) fun(l,d,u) hi=>?_
  |refine Qai hT hP (X:=List Int×Int×Int) (fun(l,d,u)=>St.mk (E3 ((.cell (.own 0))::(.cell (iv .u64 u))::E40 (E3 []))) [some (.arr (.int .u8) (l++[d]))]) (fun(l,d,u)=>Qyq n l d u) (fun(l,d,u)=>u.toNat) ([],IntKind.u8.wrap (shl .u8 (IntKind.u8.wrap (land .u64 (IntKind.u64.wrap (i64.wrap (0-i64.wrap (n+1)))) 63)) 1+1),shr .u64 (IntKind.u64.wrap (i64.wrap (0-i64.wrap (n+1)))) 6) (Le.mk [] [1] R R (by exact rfl) (by repeat' constructor)) (Qyw hn (by assumption)) fun(l,d,u) hi=>?_
 all_goals
  have hlen:=Qyr hn hi;have hla:=QuC (l:=l) (d:=d) (by omega)
  repeat' first|(apply Ea;conv=>whnf)|apply Eb|apply Ec<;>intro _|apply Ed<;>intro _|apply Ee<;>intro _|apply Ef hT hP
 all_goals
  have hL:(l++[d]).length=l.length+1:=by simp
 all_goals first
  |exact of_decide_eq_true rfl
  |(show 0≤i64.wrap (((l++[d]).length:Int)-1)∧i64.wrap (((l++[d]).length:Int)-1)<(((l++[d]).length:Nat):Int)
    rw[hla,hL];omega)
  |(show(i64.wrap (((l++[d]).length:Int)-1)).toNat<(l++[d]).length
    rw[hla,hL];omega)
  |(rw[List.length_set]
    show((l++[d]).length+1)*1≤140737488355328
    rw[hL];omega)
  |(rename_i h
    have h:u>0:=h;apply Exists.intro (l++[lor .u8 d 128],IntKind.u8.wrap (land .u64 u 127),shr .u64 u 7);refine And.intro ?_ (And.intro ?_ (Le.mk [] [2] R R ?hh ?ht))
    case hh=>exact QuB (congrArg (·++[IntKind.u8.wrap (land .u64 u 127)]) (QFo (by omega)))
    case ht=>repeat' constructor
    ·exact QCI hi h
    ·show(shr .u64 u 7).toNat<u.toNat
     rw[Qkl];omega)
  |(rename_i h
    exact .mk [] [0] _ R R R R R (QuB (Qyu hi h)) rfl)
  |skip
theorem Qbp{l:List Int}{k:Nat}(h:k<l.length):l.getD k 0∈l:=by
 rw[List.getD_eq_getElem?_getD,List.getElem?_eq_getElem h];exact List.getElem_mem h
theorem Qnz{l:List Int}{k:Nat}(h:k<l.length):QZ (l.take (k+1))=QZ (l.take k)++Qfd (l.getD k 0):=by
 rw[List.take_add_one,Qkk,List.getD_eq_getElem?_getD,List.getElem?_eq_getElem h];simp[QZ]
theorem Qcv{l:List Int}(h:∀n∈l,Qam n)(k:Nat):(QZ (l.take k)).length≤10*l.length:=by
 have h1:=Qdb (l:=l.take k) fun n hn=>h n (List.mem_of_mem_take hn)
 have h2:(l.take k).length≤l.length:=by rw[List.length_take];omega
 omega
inductive AddX where
 |N0 (l:List Int)
 |O1 (l o:List Int)
 |R1 (l o:List Int)
def AddX.l:AddX→List Int
 |.N0 l=>l
 |.O1 l _=>l
 |.R1 l _=>l
def AddX.out:AddX→List Int
 |.N0 _=>[]
 |.O1 _ o=>o
 |.R1 _ o=>o
def QCK:List V1→List Blk→Option AddX:=fun a b=>match a,b with
 | [.c (.own 0),.c (.ptr 1 0)],[.arr (.int .i64) l,.var [.imm (.slice none 0 0)]]=>some (.N0 l)
 | [.c (.own 0),.c (.ptr 1 0)],[.arr (.int .i64) l,.var [.own 2],.arr (.int .u8) o]=>some (.O1 l o)
 | [.c (.ro (.int .i64) l),.c (.ptr 0 0)],[.var [.own 1],.arr (.int .u8) o]=>some (.R1 l o)
 |_,_=>none
def QuD:AddX→List V1
 |.N0 l=>[.c (.own 0),.c (.ptr 1 0)]
 |.O1 l o=>[.c (.own 0),.c (.ptr 1 0)]
 |.R1 l o=>[.c (.ro (.int .i64) l),.c (.ptr 0 0)]
def QFq:AddX→List Blk
 |.N0 l=>[.arr (.int .i64) l,.var [.imm (.slice none 0 0)]]
 |.O1 l o=>[.arr (.int .i64) l,.var [.own 2],.arr (.int .u8) o]
 |.R1 l o=>[.var [.own 1],.arr (.int .u8) o]
theorem Qyx{a:List V1}{b:List Blk}{x:AddX}(h:QCK a b=some x):a=QuD x∧b=QFq x:=by
 unfold QCK at h;split at h
 ·injection h with h;subst h;exact⟨rfl,rfl⟩
 ·injection h with h;subst h;exact⟨rfl,rfl⟩
 ·injection h with h;subst h;exact⟨rfl,rfl⟩
 ·cases h
def QCL(x:AddX):Prop:=(∀n∈x.l,Qam n)∧x.out.length+10*x.l.length≤35184372088832
def QFr(x:AddX):Option Prop×AV×List (Option Blk)×List Blk:=match x with
 |.N0 l=>match l with
  | []=>(some (QCL x),.tup [],[some (.arr (.int .i64) l),some (.var [.imm (.slice none 0 0)])],[])
  |_::_=>(some (QCL x),.tup [],[some (.arr (.int .i64) l),some (.var [.own 2])],[.arr (.int .u8) (QZ l)])
 |.O1 l o=>match l with
  | []=>(some (QCL x),.tup [],[some (.arr (.int .i64) l),some (.var [.own 2]),some (.arr (.int .u8) o)],[])
  |_::_=>(some (QCL x),.tup [],[some (.arr (.int .i64) l),some (.var [.own 3]),none],[.arr (.int .u8) (o++QZ l)])
 |.R1 l o=>match l with
  | []=>(some (QCL x),.tup [],[some (.var [.own 1]),some (.arr (.int .u8) o)],[])
  |_::_=>(some (QCL x),.tup [],[some (.var [.own 2]),none],[.arr (.int .u8) (o++QZ l)])
def QFs:WSpec:=⟨AddX,QuD,QFq,QCK,QFr⟩
def QuE:AddX→Bool×Int×List Int→St:=fun x (f,i,o')=>match x with
 |.N0 l=>match f with
  |true=>St.mk (E1 ((.cell (.ptr 1 0))::E3 ((.cell (.own 0))::(I (l.length:Int))::(I i)::E5 (E3 [])))) [some (.arr (.int .i64) l),some (.var [.imm (.slice none 0 0)])]
  |false=>St.mk (E1 ((.cell (.ptr 1 0))::E3 ((.cell (.own 0))::(I (l.length:Int))::(I i)::E5 (E3 [])))) [some (.arr (.int .i64) l),some (.var [.own 2]),some (.arr (.int .u8) o')]
 |.O1 l o=>match f with
  |true=>St.mk (E1 ((.cell (.ptr 1 0))::E3 ((.cell (.own 0))::(I (l.length:Int))::(I i)::E5 (E3 [])))) [some (.arr (.int .i64) l),some (.var [.own 2]),some (.arr (.int .u8) o')]
  |false=>St.mk (E1 ((.cell (.ptr 1 0))::E3 ((.cell (.own 0))::(I (l.length:Int))::(I i)::E5 (E3 [])))) [some (.arr (.int .i64) l),some (.var [.own 3]),none,some (.arr (.int .u8) o')]
 |.R1 l o=>match f with
  |true=>St.mk (E1 ((.cell (.ptr 0 0))::E3 ((.cell (.ro (.int .i64) l))::(I (l.length:Int))::(I i)::E5 (E3 [])))) [some (.var [.own 1]),some (.arr (.int .u8) o')]
  |false=>St.mk (E1 ((.cell (.ptr 0 0))::E3 ((.cell (.ro (.int .i64) l))::(I (l.length:Int))::(I i)::E5 (E3 [])))) [some (.var [.own 2]),none,some (.arr (.int .u8) o')]
def QG9(x:AddX):Bool×Int×List Int→Prop:=fun(f,i,o')=>∃k:Nat,i=k∧k≤x.l.length∧o'=x.out++QZ (x.l.take k)∧(f=true↔k=0)
def QI2(x:AddX):Bool×Int×List Int→Nat:=fun(f,i,o')=>((x.l.length:Int)-i).toNat
theorem Qgl{x:AddX}{f:Bool}{k:Nat}{o':List Int}(hk:k<x.l.length)(ho:o'=x.out++QZ (x.l.take k))(hl:k≤4611686018427387904):QG9 x (false,i64.wrap ((k:Int)+1),o'++Qfd (x.l.getD k 0)) :=
 ⟨k+1,QL hl,hk,by rw[ho,Qnz hk,List.append_assoc],by simp⟩
theorem Qyy:G0 120 QFs.spec:=by
 have hP:S0 _:=Qa QCJ (Qb (T:=tree));have hT:=tabs hP Qc;refine QFs.gd hT hP Tryz.func120 (fun _ _ _ h=>Qyx h) fun(x:AddX) hq=>?_
 have hp:QCL x:=by
  cases x with
  |N0 l=>cases l<;>exact hq _ rfl
  |O1 l o=>cases l<;>exact hq _ rfl
  |R1 l o=>cases l<;>exact hq _ rfl
 clear hq;obtain⟨h1,h2⟩:=hp;cases x with
 |N0 l =>
  have h1:∀n∈l,Qam n:=h1;have h2:([]:List Int).length+10*l.length≤35184372088832:=h2
  repeat' first|(apply Ea;conv=>whnf)|apply Eb|apply Ec<;>intro _|apply Ed<;>intro _|apply Ee<;>intro _|apply Ef hT hP
  all_goals first
   |exact of_decide_eq_true rfl
   |skip
  refine Qai hT hP (X:=Bool×Int×List Int) (QuE (.N0 l)) (QG9 (.N0 l)) (QI2 (.N0 l)) (true,0,([]:List Int)) (Le.k [] [0,1] ?_) ?_ fun(f,i,o') hi=>?_
  ·repeat' constructor
  ·exact⟨0,rfl,Nat.zero_le _,by simp[QZ,AddX.out],by simp⟩
  obtain⟨k,rfl,hk,ho,hf⟩:=hi;have hk:k≤l.length:=hk;have ho:o'=([]:List Int)++QZ (l.take k):=ho;have hlo:o'.length≤([]:List Int).length+10*l.length:=by rw[ho,List.length_append];have:=Qcv h1 k;omega
  cases f with
  |true =>
   obtain rfl:k=0:=hf.1 rfl;have ho2:o'=([]:List Int):=by rw[ho];simp[QZ]
   repeat' first|(apply Ea;conv=>whnf)|apply Eb|apply Ec<;>intro _|apply Ed<;>intro _|apply Ee<;>intro _|apply Ef hT hP
   all_goals first
    |exact of_decide_eq_true rfl
    |(show 0≤((0:Nat):Int)∧((0:Nat):Int)<(l.length:Int)
      omega)
    |(show(((0:Nat):Int)).toNat<l.length
      omega)
    |(rename_i h
      have h:((0:Nat):Int)<(l.length:Int):=h
      exact h1 _ (Qbp (k:=0) (by omega)))
    |(rename_i h
      have h:((0:Nat):Int)<(l.length:Int):=h;have hz:=QaU (h1 _ (Qbp (k:=0) (by omega)));show((Qfd (l.getD 0 0)).length)*1≤140737488355328
      omega)
    |(rename_i h
      have h:((0:Nat):Int)<(l.length:Int):=h;apply Exists.intro (false,_,_);refine And.intro ?_ (And.intro ?_ (Le.k [] [0,1,3] ?hh))
      case hh=>repeat' constructor
      ·exact Qgl (x:=.N0 l) (f:=true) (k:=0) (o':=[]) (by show 0<l.length;omega) (by simp[QZ,AddX.out]) (by omega)
      ·show((l.length:Int)-i64.wrap (((0:Nat):Int)+1)).toNat<((l.length:Int)-((0:Nat):Int)).toNat
       rw[QL (by omega)];omega)
    |(rename_i h
      have h:¬((0:Nat):Int)<(l.length:Int):=h;obtain rfl:l=[]:=List.eq_nil_of_length_eq_zero (by omega);subst ho2
      exact .k [] [0,1] _ R R)
    |skip
  |false =>
   repeat' first|(apply Ea;conv=>whnf)|apply Eb|apply Ec<;>intro _|apply Ed<;>intro _|apply Ee<;>intro _|apply Ef hT hP
   all_goals first
    |exact of_decide_eq_true rfl
    |(show 0≤(k:Int)∧(k:Int)<(l.length:Int)
      omega)
    |(show((k:Int)).toNat<l.length
      omega)
    |(rename_i h
      have h:(k:Int)<(l.length:Int):=h
      exact h1 _ (Qbp (k:=k) (by omega)))
    |(rename_i h
      have h:(k:Int)<(l.length:Int):=h;have hz:=QaU (h1 _ (Qbp (k:=k) (by omega)));show(o'.length+(Qfd (l.getD k 0)).length)*1≤140737488355328
      omega)
    |(rename_i h
      have h:(k:Int)<(l.length:Int):=h;apply Exists.intro (false,_,_);refine And.intro ?_ (And.intro ?_ (Le.k [] [0,1,4] ?hh))
      case hh=>repeat' constructor
      ·exact Qgl (x:=.N0 l) (f:=false) (k:=k) (by show k<l.length;omega) ho (by omega)
      ·show((l.length:Int)-i64.wrap ((k:Int)+1)).toNat<((l.length:Int)-(k:Int)).toNat
       rw[QL (by omega)];omega)
    |(rename_i h
      have h:¬(k:Int)<(l.length:Int):=h;rw[List.take_of_length_le (by omega)] at ho;subst ho;cases l with
      |nil=>exact absurd (hf.2 (by simp at hk;omega)) (by decide)
      |cons a r=>exact .k [] [0,1,2] _ R R)
    |skip
 |O1 l o =>
  have h1:∀n∈l,Qam n:=h1;have h2:o.length+10*l.length≤35184372088832:=h2
  repeat' first|(apply Ea;conv=>whnf)|apply Eb|apply Ec<;>intro _|apply Ed<;>intro _|apply Ee<;>intro _|apply Ef hT hP
  all_goals first
   |exact of_decide_eq_true rfl
   |skip
  refine Qai hT hP (X:=Bool×Int×List Int) (QuE (.O1 l o)) (QG9 (.O1 l o)) (QI2 (.O1 l o)) (true,0,o) (Le.k [] [0,1,2] ?_) ?_ fun(f,i,o') hi=>?_
  ·repeat' constructor
  ·exact⟨0,rfl,Nat.zero_le _,by simp[QZ,AddX.out],by simp⟩
  obtain⟨k,rfl,hk,ho,hf⟩:=hi;have hk:k≤l.length:=hk;have ho:o'=o++QZ (l.take k):=ho;have hlo:o'.length≤o.length+10*l.length:=by rw[ho,List.length_append];have:=Qcv h1 k;omega
  cases f with
  |true =>
   obtain rfl:k=0:=hf.1 rfl;have ho2:o'=o:=by rw[ho];simp[QZ]
   repeat' first|(apply Ea;conv=>whnf)|apply Eb|apply Ec<;>intro _|apply Ed<;>intro _|apply Ee<;>intro _|apply Ef hT hP
   all_goals first
    |exact of_decide_eq_true rfl
    |(show 0≤((0:Nat):Int)∧((0:Nat):Int)<(l.length:Int)
      omega)
    |(show(((0:Nat):Int)).toNat<l.length
      omega)
    |(rename_i h
      have h:((0:Nat):Int)<(l.length:Int):=h
      exact h1 _ (Qbp (k:=0) (by omega)))
    |(rename_i h
      have h:((0:Nat):Int)<(l.length:Int):=h;have hz:=QaU (h1 _ (Qbp (k:=0) (by omega)));show(o'.length+(Qfd (l.getD 0 0)).length)*1≤140737488355328
      omega)
    |(rename_i h
      have h:((0:Nat):Int)<(l.length:Int):=h;apply Exists.intro (false,_,_);refine And.intro ?_ (And.intro ?_ (Le.k [] [0,1,2,4] ?hh))
      case hh=>repeat' constructor
      ·exact Qgl (x:=.O1 l o) (f:=true) (k:=0) (by show 0<l.length;omega) ho (by omega)
      ·show((l.length:Int)-i64.wrap (((0:Nat):Int)+1)).toNat<((l.length:Int)-((0:Nat):Int)).toNat
       rw[QL (by omega)];omega)
    |(rename_i h
      have h:¬((0:Nat):Int)<(l.length:Int):=h;obtain rfl:l=[]:=List.eq_nil_of_length_eq_zero (by omega);subst ho2
      exact .k [] [0,1,2] _ R R)
    |skip
  |false =>
   repeat' first|(apply Ea;conv=>whnf)|apply Eb|apply Ec<;>intro _|apply Ed<;>intro _|apply Ee<;>intro _|apply Ef hT hP
   all_goals first
    |exact of_decide_eq_true rfl
    |(show 0≤(k:Int)∧(k:Int)<(l.length:Int)
      omega)
    |(show((k:Int)).toNat<l.length
      omega)
    |(rename_i h
      have h:(k:Int)<(l.length:Int):=h
      exact h1 _ (Qbp (k:=k) (by omega)))
    |(rename_i h
      have h:(k:Int)<(l.length:Int):=h;have hz:=QaU (h1 _ (Qbp (k:=k) (by omega)));show(o'.length+(Qfd (l.getD k 0)).length)*1≤140737488355328
      omega)
    |(rename_i h
      have h:(k:Int)<(l.length:Int):=h;apply Exists.intro (false,_,_);refine And.intro ?_ (And.intro ?_ (Le.k [] [0,1,2,5] ?hh))
      case hh=>repeat' constructor
      ·exact Qgl (x:=.O1 l o) (f:=false) (k:=k) (by show k<l.length;omega) ho (by omega)
      ·show((l.length:Int)-i64.wrap ((k:Int)+1)).toNat<((l.length:Int)-(k:Int)).toNat
       rw[QL (by omega)];omega)
    |(rename_i h
      have h:¬(k:Int)<(l.length:Int):=h;rw[List.take_of_length_le (by omega)] at ho;subst ho;cases l with
      |nil=>exact absurd (hf.2 (by simp at hk;omega)) (by decide)
      |cons a r=>exact .k [] [0,1,2,3] _ R R)
    |skip
 |R1 l o =>
  have h1:∀n∈l,Qam n:=h1;have h2:o.length+10*l.length≤35184372088832:=h2
  repeat' first|(apply Ea;conv=>whnf)|apply Eb|apply Ec<;>intro _|apply Ed<;>intro _|apply Ee<;>intro _|apply Ef hT hP
  all_goals first
   |exact of_decide_eq_true rfl
   |skip
  refine Qai hT hP (X:=Bool×Int×List Int) (QuE (.R1 l o)) (QG9 (.R1 l o)) (QI2 (.R1 l o)) (true,0,o) (Le.k [] [0,1] ?_) ?_ fun(f,i,o') hi=>?_
  ·repeat' constructor
  ·exact⟨0,rfl,Nat.zero_le _,by simp[QZ,AddX.out],by simp⟩
  obtain⟨k,rfl,hk,ho,hf⟩:=hi;have hk:k≤l.length:=hk;have ho:o'=o++QZ (l.take k):=ho;have hlo:o'.length≤o.length+10*l.length:=by rw[ho,List.length_append];have:=Qcv h1 k;omega
  cases f with
  |true =>
   obtain rfl:k=0:=hf.1 rfl;have ho2:o'=o:=by rw[ho];simp[QZ]
   repeat' first|(apply Ea;conv=>whnf)|apply Eb|apply Ec<;>intro _|apply Ed<;>intro _|apply Ee<;>intro _|apply Ef hT hP
   all_goals first
    |exact of_decide_eq_true rfl
    |(show 0≤((0:Nat):Int)∧((0:Nat):Int)<(l.length:Int)
      omega)
    |(show(((0:Nat):Int)).toNat<l.length
      omega)
    |(rename_i h
      have h:((0:Nat):Int)<(l.length:Int):=h
      exact h1 _ (Qbp (k:=0) (by omega)))
    |(rename_i h
      have h:((0:Nat):Int)<(l.length:Int):=h;have hz:=QaU (h1 _ (Qbp (k:=0) (by omega)));show(o'.length+(Qfd (l.getD 0 0)).length)*1≤140737488355328
      omega)
    |(rename_i h
      have h:((0:Nat):Int)<(l.length:Int):=h;apply Exists.intro (false,_,_);refine And.intro ?_ (And.intro ?_ (Le.k [] [0,1,3] ?hh))
      case hh=>repeat' constructor
      ·exact Qgl (x:=.R1 l o) (f:=true) (k:=0) (by show 0<l.length;omega) ho (by omega)
      ·show((l.length:Int)-i64.wrap (((0:Nat):Int)+1)).toNat<((l.length:Int)-((0:Nat):Int)).toNat
       rw[QL (by omega)];omega)
    |(rename_i h
      have h:¬((0:Nat):Int)<(l.length:Int):=h;obtain rfl:l=[]:=List.eq_nil_of_length_eq_zero (by omega);subst ho2
      exact .k [] [0,1] _ R R)
    |skip
  |false =>
   repeat' first|(apply Ea;conv=>whnf)|apply Eb|apply Ec<;>intro _|apply Ed<;>intro _|apply Ee<;>intro _|apply Ef hT hP
   all_goals first
    |exact of_decide_eq_true rfl
    |(show 0≤(k:Int)∧(k:Int)<(l.length:Int)
      omega)
    |(show((k:Int)).toNat<l.length
      omega)
    |(rename_i h
      have h:(k:Int)<(l.length:Int):=h
      exact h1 _ (Qbp (k:=k) (by omega)))
    |(rename_i h
      have h:(k:Int)<(l.length:Int):=h;have hz:=QaU (h1 _ (Qbp (k:=k) (by omega)));show(o'.length+(Qfd (l.getD k 0)).length)*1≤140737488355328
      omega)
    |(rename_i h
      have h:(k:Int)<(l.length:Int):=h;apply Exists.intro (false,_,_);refine And.intro ?_ (And.intro ?_ (Le.k [] [0,1,4] ?hh))
      case hh=>repeat' constructor
      ·exact Qgl (x:=.R1 l o) (f:=false) (k:=k) (by show k<l.length;omega) ho (by omega)
      ·show((l.length:Int)-i64.wrap ((k:Int)+1)).toNat<((l.length:Int)-(k:Int)).toNat
       rw[QL (by omega)];omega)
    |(rename_i h
      have h:¬(k:Int)<(l.length:Int):=h;rw[List.take_of_length_le (by omega)] at ho;subst ho;cases l with
      |nil=>exact absurd (hf.2 (by simp at hk;omega)) (by decide)
      |cons a r=>exact .k [] [0,1,2] _ R R)
    |skip
abbrev Qj:Ty:=.pair (.sl (.int .i64)) (.sl (.int .u8))
abbrev QfK:Ty:=.pair (.int .i64) (.pair QCA (.pair (.sl Qj) (.pair (.int .i64) (.pair (.int .i64) (.int .i64)))))
abbrev gM:Sig:=⟨true,QfK⟩
abbrev Mach:=Int×Kor×List Dv×Int×Int×Int
def Qkm(m:Mach):List Int:=[m.1]++m.2.1.1++[m.2.1.2.1,m.2.1.2.2.1,cond m.2.1.2.2.2 1 0,m.2.2.2.1,m.2.2.2.2.1,m.2.2.2.2.2,(m.2.2.1.length:Int)]
def Qkn(d:Dv):List Int:=Qfd (d.1.length:Int)++QZ d.1++Qfd (d.2.length:Int)++d.2
def QnA(m:Mach):List Int:=QZ (Qkm m)++m.2.2.1.flatMap Qkn
def QbA(d:Dv):Nat:=10*d.1.length+d.2.length+20
def QcB(m:Mach):Prop:=(∀n∈Qkm m,Qam n)∧(∀d∈m.2.2.1,∀n∈d.1,Qam n)∧m.2.1.1.length=9∧(m.2.2.1.map QbA).sum≤1099511627776
def QAF:PSpec:=⟨[gB],fun(b,_)=>(none,I (cond b 1 0),[])⟩
theorem Qyz:G0 119 QAF.spec:=by
 have hP:S0 _:=(Qb (T:=tree))
 have hT:=tabs hP Qc;refine QAF.gd hT hP Tryz.func119 fun(b:Bool) _=>?_
 cases b
 all_goals
  repeat' first|(apply Ea;conv=>whnf)|apply Eb|apply Ec<;>intro _|apply Ed<;>intro _|apply Ee<;>intro _|apply Ef hT hP
 all_goals exact .k [] [] _ R R
theorem Qh7(m:Mach)(h:m.2.1.1.length=9):(Qkm m).length=17:=by unfold Qkm;simp[h]
theorem QnB(l:List Nat)(k:Nat):(l.take k).sum≤l.sum:=by
 have:=List.sum_append_nat (l₁:=l.take k) (l₂:=l.drop k);rw[List.take_append_drop] at this;omega
theorem QyA{d:Dv}(h:∀n∈d.1,Qam n)(h2:d.1.length≤4611686018427387904)(h3:d.2.length≤4611686018427387904):(Qkn d).length≤QbA d:=by
 have a1:=Qdb h;have a2:=QaU (n:=(d.1.length:Int)) (by unfold Qam;omega);have a3:=QaU (n:=(d.2.length:Int)) (by unfold Qam;omega);unfold Qkn QbA;simp only[List.length_append];omega
theorem QuF{ds:List Dv}{k:Nat}(h:k<ds.length):(ds.take (k+1)).flatMap Qkn=(ds.take k).flatMap Qkn++Qkn (ds.getD k ([],[])):=by
 rw[List.take_add_one,List.flatMap_append,List.getD_eq_getElem?_getD,List.getElem?_eq_getElem h];simp
theorem QuG{ds:List Dv}{k:Nat}(h:k<ds.length):ds.getD k ([],[])∈ds:=by
 rw[List.getD_eq_getElem?_getD,List.getElem?_eq_getElem h];exact List.getElem_mem h
theorem Qg1{ds:List Dv}{d:Dv}(h:d∈ds):QbA d≤(ds.map QbA).sum:=by
 induction ds with
 |nil=>cases h
 |cons x r ih =>
  simp only[List.map_cons,List.sum_cons];rcases List.mem_cons.1 h with rfl|h
  ·omega
  ·have:=ih h;omega
theorem Qko(ds:List Dv):20*ds.length≤(ds.map QbA).sum:=by
 induction ds with
 |nil=>simp
 |cons x r ih=>simp only[List.map_cons,List.sum_cons,List.length_cons];unfold QbA at *;omega
theorem QyB{ds:List Dv}(h:∀d∈ds,∀n∈d.1,Qam n)(hs:(ds.map QbA).sum≤1099511627776):(ds.flatMap Qkn).length≤(ds.map QbA).sum:=by
 induction ds with
 |nil=>simp
 |cons x r ih =>
  have h1:=Qg1 (List.mem_cons_self (a:=x) (l:=r));have h2:QbA x≤1099511627776:=Nat.le_trans h1 hs;unfold QbA at h2;have h3:=QyA (h x (List.mem_cons_self ..)) (by omega) (by omega);simp only[List.map_cons,List.sum_cons] at hs;have h4:=ih (fun d hd=>h d (List.mem_cons_of_mem _ hd)) (by omega);simp only[List.flatMap_cons,List.length_append,List.map_cons,List.sum_cons];omega
theorem QfL{ds:List Dv}(h:∀d∈ds,∀n∈d.1,Qam n)(hs:(ds.map QbA).sum≤1099511627776)(k:Nat):((ds.take k).flatMap Qkn).length≤(ds.map QbA).sum:=by
 have e:=QnB (ds.map QbA) k;rw[←List.map_take] at e;exact Nat.le_trans (QyB (fun d hd=>h d (List.mem_of_mem_take hd)) (by omega)) e
def QFt:PSpec:=⟨[gM],fun(m,_)=>(some (QcB m),.cell (.own 0),[.arr (.int .u8) (QnA m)])⟩
theorem QuH:G0 65 QFt.spec:=by
 have hP:S0 _:=Qa Qyz (Qa Qyy (Qb (T:=tree)));have hT:=tabs hP Qc;refine QFt.gd hT hP Tryz.func65 fun(m:Mach) hq=>?_
 have hp:QcB m:=hq _ rfl;clear hq;obtain⟨tm,⟨r,op,at_,nmi⟩,ds,bd,ba,bdt⟩:=m;obtain⟨h1,h2,h3,h4⟩:=hp;have h3:r.length=9:=h3
 repeat' first|(apply Ea;conv=>whnf)|apply Eb|apply Ec<;>intro _|apply Ed<;>intro _|apply Ee<;>intro _|apply Ef hT hP
 all_goals first
  |exact of_decide_eq_true rfl
  |skip
 all_goals
  have h1:∀n∈Qkm (tm,(r,op,at_,nmi),ds,bd,ba,bdt),Qam n:=h1;have h2:∀d∈ds,∀n∈d.1,Qam n:=h2;have h4:(ds.map QbA).sum≤1099511627776:=h4;have hH:=Qh7 (tm,(r,op,at_,nmi),ds,bd,ba,bdt) h3;have hHl:=Qdb h1;rw[hH] at hHl
 ·show(1+r.length)*8≤140737488355328;omega
 ·show(([tm]++r).length+7)*8≤140737488355328;simp;omega
 ·exact⟨h1,by show 0+10*(Qkm (tm,(r,op,at_,nmi),ds,bd,ba,bdt)).length≤_;omega⟩
 ·have hds:=Qko ds
  refine QH hT hP ds.length (fun i (o:List Int)=>St.mk (E3 (E1 ((.cell (.ptr 0 0))::(.cell (.fn 120 [0]))::E40 (E2 ((.cell (.ro Qj ds))::(I (ds.length:Int))::(I i)::E20 (E5 [])))))) [some (.var [.own 1]),some (.arr (.int .u8) o)])
   (fun k o=>o=QZ (Qkm (tm,(r,op,at_,nmi),ds,bd,ba,bdt))++(ds.take k).flatMap Qkn) (QZ (Qkm (tm,(r,op,at_,nmi),ds,bd,ba,bdt))) (Le.k [] [6,7] ?_) ?_ fun k o hk hi=>?_
  ·repeat' constructor
  ·simp
  repeat' first|(apply Ea;conv=>whnf)|apply Eb|apply Ec<;>intro _|apply Ed<;>intro _|apply Ee<;>intro _|apply Ef hT hP
  all_goals first
   |exact of_decide_eq_true rfl
   |skip
  ·rename_i hlt;have hlt:(k:Int)<(ds.length:Int):=hlt;show 0≤(k:Int)∧(k:Int)<(ds.length:Int);omega
  ·rename_i hlt;have hlt:(k:Int)<(ds.length:Int):=hlt;have hm:List.getD (α:=Den Qj) ds ((k:Int)).toNat (dflt Qj)∈ds:=QuG (by omega)
   have hlo:o.length≤170+(ds.map QbA).sum:=by
    rw[hi,List.length_append];have:=QfL h2 h4 k;omega
   have hz:=Qg1 hm;generalize List.getD (α:=Den Qj) ds ((k:Int)).toNat (dflt Qj)=D at *;obtain⟨N,M⟩:=D;have hz:10*N.length+M.length+20≤(ds.map QbA).sum:=hz;refine⟨fun n hn=>?_,?_⟩
   ·have hn:n∈[((N.length:Nat):Int)]:=hn;rw[List.mem_singleton] at hn;subst hn;unfold Qam;omega
   ·show o.length+10*1≤35184372088832;omega
  ·rename_i hlt;have hlt:(k:Int)<(ds.length:Int):=hlt;have hm:List.getD (α:=Den Qj) ds ((k:Int)).toNat (dflt Qj)∈ds:=QuG (by omega);have hft:(ds.take (k+1)).flatMap Qkn=(ds.take k).flatMap Qkn++Qkn (List.getD (α:=Den Qj) ds ((k:Int)).toNat (dflt Qj)):=QuF (by omega)
   have hlo:o.length≤170+(ds.map QbA).sum:=by
    rw[hi,List.length_append];have:=QfL h2 h4 k;omega
   generalize List.getD (α:=Den Qj) ds ((k:Int)).toNat (dflt Qj)=D at *;have hD:=h2 D hm;have hz:=Qg1 hm;obtain⟨N,M⟩:=D;have hD:∀n∈N,Qam n:=hD;have hz:10*N.length+M.length+20≤(ds.map QbA).sum:=hz;cases N with
   |nil =>
    conv=>whnf
    repeat' first|(apply Ea;conv=>whnf)|apply Eb|apply Ec<;>intro _|apply Ed<;>intro _|apply Ee<;>intro _|apply Ef hT hP
    all_goals
     have eN:=QaU (n:=(((([]:List Int)).length:Nat):Int)) (by unfold Qam;omega);have eM:=QaU (n:=((M.length:Nat):Int)) (by unfold Qam;omega);have eA:=Qdb hD
    all_goals first
     |exact of_decide_eq_true rfl
     |(refine⟨hD,?_⟩
       show(o++(Qfd (((([]:List Int)).length:Nat):Int)++[])).length+10*(([]:List Int)).length≤35184372088832
       simp only[List.length_append,List.length_nil];first|omega|(simp only[List.length_nil] at eN;omega))
     |(refine⟨fun n hn=>?_,?_⟩
       ·have hn:n∈[((M.length:Nat):Int)]:=hn;rw[List.mem_singleton] at hn;subst hn;unfold Qam;omega
       ·show(o++(Qfd (((([]:List Int)).length:Nat):Int)++[])).length+10*1≤35184372088832
        simp only[List.length_append,List.length_nil];first|omega|(simp only[List.length_nil] at eN;omega))
     |(show((o++(Qfd (((([]:List Int)).length:Nat):Int)++[])++(Qfd ((M.length:Nat):Int)++[])).length+M.length)*1≤140737488355328
       simp only[List.length_append,List.length_nil];first|omega|(simp only[List.length_nil] at eN;omega))
     |skip
    apply Ex _ [] [0,7]
    ·repeat' constructor
    ·omega
    ·exact QL (by omega)
    ·show o++(Qfd (((([]:List Int)).length:Nat):Int)++[])++(Qfd ((M.length:Nat):Int)++[])++M=_;rw[hft,hi];simp[Qkn,QZ]
   |cons a N' =>
    conv=>whnf
    repeat' first|(apply Ea;conv=>whnf)|apply Eb|apply Ec<;>intro _|apply Ed<;>intro _|apply Ee<;>intro _|apply Ef hT hP
    all_goals
     have eN:=QaU (n:=(((a::N').length:Nat):Int)) (by unfold Qam;omega);have eM:=QaU (n:=((M.length:Nat):Int)) (by unfold Qam;omega);have eA:=Qdb hD
    all_goals first
     |exact of_decide_eq_true rfl
     |(refine⟨hD,?_⟩
       show(o++(Qfd (((a::N').length:Nat):Int)++[])).length+10*(a::N').length≤35184372088832
       simp only[List.length_append,List.length_nil];first|omega|(simp only[List.length_nil] at eN;omega))
     |(refine⟨fun n hn=>?_,?_⟩
       ·have hn:n∈[((M.length:Nat):Int)]:=hn;rw[List.mem_singleton] at hn;subst hn;unfold Qam;omega
       ·show(o++(Qfd (((a::N').length:Nat):Int)++[])++QZ (a::N')).length+10*1≤35184372088832
        simp only[List.length_append,List.length_nil];first|omega|(simp only[List.length_nil] at eN;omega))
     |(show((o++(Qfd (((a::N').length:Nat):Int)++[])++QZ (a::N')++(Qfd ((M.length:Nat):Int)++[])).length+M.length)*1≤140737488355328
       simp only[List.length_append,List.length_nil];first|omega|(simp only[List.length_nil] at eN;omega))
     |skip
    apply Ex _ [] [0,8]
    ·repeat' constructor
    ·omega
    ·exact QL (by omega)
    ·show o++(Qfd (((a::N').length:Nat):Int)++[])++QZ (a::N')++(Qfd ((M.length:Nat):Int)++[])++M=_;rw[hft,hi];simp[Qkn,QZ]
  ·rename_i hlt;have hlt:¬(k:Int)<(ds.length:Int):=hlt;refine .mk [] [1] _ R R R R R (QuB ?_) rfl;rw[hi,List.take_of_length_le (by omega)];rfl
def QcS(m:Int):Int:=if m=0 then 0 else if m=4∨m=5∨m=6 then 2 else if m=1∨m=2∨m=3∨m=7∨m=8 then 1 else -1
def QpN:PSpec:=⟨[gi],fun(m,_)=>(none,I (QcS m),[])⟩
theorem QyD:G0 186 QpN.spec:=by
 have hP:S0 _:=(Qb (T:=tree))
 have hT:=tabs hP Qc;refine QpN.gd hT hP Tryz.func186 fun(m:Int) _=>?_
 repeat' first|(apply Ea;conv=>whnf)|apply Eb|apply Ec<;>intro _|apply Ed<;>intro _|apply Ee<;>intro _|apply Ef hT hP|apply Eg hT hP
 all_goals(refine .k [] [] _ rfl (Qd ?_))
 all_goals clear hT hP
 all_goals(show _=QcS m;unfold QcS;dsimp only[gi,Den] at *)
 all_goals((repeat' split)<;>first|rfl|omega)
theorem QnD:G0 116 QpN.spec:=by
 have hP:S0 _:=(Qb (T:=tree))
 have hT:=tabs hP Qc;refine QpN.gd hT hP Tryz.func116 fun(m:Int) _=>?_
 repeat' first|(apply Ea;conv=>whnf)|apply Eb|apply Ec<;>intro _|apply Ed<;>intro _|apply Ee<;>intro _|apply Ef hT hP|apply Eg hT hP
 all_goals first
  |exact of_decide_eq_true rfl
  |(dsimp only[gi,Den] at *;simp only[List.length_cons,List.length_nil] at *;omega)
  |skip
 all_goals(refine .k [] [] _ rfl (Qd ?_))
 all_goals clear hT hP
 all_goals(dsimp only[gi,Den] at *)
 all_goals(try simp only[List.length_cons,List.length_nil] at *)
 all_goals first
  |(show _=QcS m;unfold QcS;(repeat' split)<;>first|rfl|omega)
  |skip
 ·have hm:m=0∨m=1∨m=2∨m=3∨m=4∨m=5∨m=6∨m=7∨m=8:=by omega
  rcases hm with rfl|rfl|rfl|rfl|rfl|rfl|rfl|rfl|rfl<;>rfl
def QpO:PSpec:=⟨[⟨false,.sl Qs⟩],fun(l,_)=>(some (l=[]),I 0,[])⟩
theorem Qru:G0 189 QpO.spec:=by
 have hP:S0 _:=(Qb (T:=tree))
 have hT:=tabs hP Qc;refine QpO.gd hT hP Tryz.func189 fun(l:List Cyc) hq=>?_
 obtain rfl:l=[]:=hq _ rfl;clear hq
 repeat' first|(apply Ea;conv=>whnf)|apply Eb|apply Ec<;>intro _|apply Ed<;>intro _|apply Ee<;>intro _|apply Ef hT hP|apply Eg hT hP
 refine QX 1 ?_
 repeat' first|(apply Ea;conv=>whnf)|apply Eb|apply Ec<;>intro _|apply Ed<;>intro _|apply Ee<;>intro _|apply Ef hT hP|apply Eg hT hP
 all_goals exact .k [] [] _ R R
def QuQ:PSpec:=⟨[Qx5],fun(c,_)=>(some (c.2=([],[],[],[])),I (if QaF (bytesOf c.1)=true then 0 else 15),[])⟩
theorem QuR:G0 101 QuQ.spec:=by
 have hP:S0 _:=Qa QfI (Qa Qru (Qb (T:=tree)));have hT:=tabs hP Qc;refine QuQ.gd hT hP Tryz.func101 fun(c:Cpu) hq=>?_
 obtain⟨cn,c2⟩:=c;obtain rfl:c2=([],[],[],[]):=hq _ rfl;clear hq
 repeat' first|(apply Ea;conv=>whnf)|apply Eb|apply Ec<;>intro _|apply Ed<;>intro _|apply Ee<;>intro _|apply Ef hT hP|apply Eg hT hP
 all_goals first
  |exact of_decide_eq_true rfl
  |skip
 ·rename_i h
  have hn:QaF (bytesOf cn)=false:=by
   have h:(!QaF (bytesOf cn))=true:=h;simpa using h
  refine .k [] [] _ rfl (Qd ?_);show 15=if QaF (bytesOf cn)=true then 0 else 15
  rw[hn];rfl
 rename_i h
 have hn:QaF (bytesOf cn)=true:=by
  have h:(!QaF (bytesOf cn))=false:=h;simpa using h
 refine QX 1 ?_
 repeat' first|(apply Ea;conv=>whnf)|apply Eb|apply Ec<;>intro _|apply Ed<;>intro _|apply Ee<;>intro _|apply Ef hT hP|apply Eg hT hP
 refine QX 4 ?_
 repeat' first|(apply Ea;conv=>whnf)|apply Eb|apply Ec<;>intro _|apply Ed<;>intro _|apply Ee<;>intro _|apply Ef hT hP|apply Eg hT hP
 all_goals first
  |exact of_decide_eq_true rfl
  |exact rfl
  |skip
 all_goals(refine .k [] [] _ rfl (Qd ?_))
 all_goals(show 0=if QaF (bytesOf cn)=true then 0 else 15;rw[hn];rfl)
end Go.Proofs.YtofgbclopbmlcaaGreat





