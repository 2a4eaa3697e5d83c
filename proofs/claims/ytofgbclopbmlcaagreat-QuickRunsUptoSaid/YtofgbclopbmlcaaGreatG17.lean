/- Part 17 of the proof. Conditions: none. -/
import Derived.Test.YtofgbclopbmlcaaGreatG16
import Derived.Laws.Bits64
namespace Go.Proofs.YtofgbclopbmlcaaGreat
open Go.IntKind (i64)
open Go.Fw
set_option linter.unusedVariables false
set_option linter.unusedSimpArgs false
theorem w64{x:Int}(h1:-9223372036854775808≤x)(h2:x≤9223372036854775807):i64.wrap x=x:=by
 rw[IntKind.wrap_i64];omega
def u64(x:Int):Nat:=(x%18446744073709551616).toNat
theorem Qas{n:Nat}(h:n<2 ^ 64):u64 (n:Int)=n:=by unfold u64;omega
theorem Qac(x:Int):(BitVec.ofInt 64 x).toNat=u64 x:=by
 rw[BitVec.toNat_ofInt];rfl
theorem Qfu(x y:Int)(h:u64 x &&& u64 y<2 ^ 63):land .i64 x y=((u64 x &&& u64 y:Nat):Int):=by
 show i64.wrap (((BitVec.ofInt 64 x &&& BitVec.ofInt 64 y).toNat:Nat):Int)=_;rw[BitVec.toNat_and,Qac,Qac];exact w64 (by omega) (by omega)
theorem Qgd(x y:Int)(h:u64 x ||| u64 y<2 ^ 63):lor .i64 x y=((u64 x ||| u64 y:Nat):Int):=by
 show i64.wrap (((BitVec.ofInt 64 x ||| BitVec.ofInt 64 y).toNat:Nat):Int)=_;rw[BitVec.toNat_or,Qac,Qac];exact w64 (by omega) (by omega)
theorem Qds(x y:Int)(h:u64 x<2 ^ 63):Q3 .i64 x y=((u64 x ^^^ (u64 x &&& u64 y):Nat):Int):=by
 have e:(BitVec.ofInt 64 x &&& ~~~(BitVec.ofInt 64 y))=BitVec.ofInt 64 x ^^^ (BitVec.ofInt 64 x &&& BitVec.ofInt 64 y):=by
  apply BitVec.eq_of_getLsbD_eq;intro i hi;simp only[BitVec.getLsbD_and,BitVec.getLsbD_not,BitVec.getLsbD_xor,hi,decide_true,Bool.true_and];cases(BitVec.ofInt 64 x).getLsbD i<;>cases(BitVec.ofInt 64 y).getLsbD i<;>rfl
 show i64.wrap (((BitVec.ofInt 64 x &&& ~~~(BitVec.ofInt 64 y)).toNat:Nat):Int)=_;rw[e,BitVec.toNat_xor,BitVec.toNat_and,Qac,Qac];have h2:u64 x ^^^ (u64 x &&& u64 y)<2 ^ 63:=Nat.xor_lt_two_pow h (Nat.lt_of_le_of_lt Nat.and_le_left h);exact w64 (by omega) (by omega)
theorem QlA{a b:Nat}(h:a≤b):2 ^ a≤2 ^ b:=Nat.pow_le_pow_right (by omega) h
theorem QsS{b:Nat}(h:b≤62):i64.wrap (shl .i64 1 b-1)=((2 ^ b-1:Nat):Int):=by
 have h1:2 ^ b≤2 ^ 62:=QlA h;have h2:0<2 ^ b:=Nat.pow_pos (by omega)
 have e:shl .i64 1 (b:Int)=((2 ^ b:Nat):Int):=by
  show i64.wrap (1*2 ^ (min ((b:Int).toNat) 64))=_;have:min ((b:Int).toNat) 64=b:=by omega
  rw[this,Int.one_mul];have e2:(2:Int) ^ b=((2 ^ b:Nat):Int):=by simp
  rw[e2];exact w64 (by omega) (by omega)
 rw[e,w64 (by omega) (by omega)];omega
theorem QsT{x b:Nat}(h:x*2 ^ b<2 ^ 63)(hb:b≤62):shl .i64 (x:Int) (b:Int)=((x*2 ^ b:Nat):Int):=by
 show i64.wrap ((x:Int)*2 ^ (min ((b:Int).toNat) 64))=_;have:min ((b:Int).toNat) 64=b:=by omega
 rw[this];have e2:(x:Int)*2 ^ b=((x*2 ^ b:Nat):Int):=by simp
 rw[e2];exact w64 (by omega) (by omega)
theorem QzZ{x b:Nat}(hb:b≤64):shr .i64 (x:Int) (b:Int)=((x/2 ^ b:Nat):Int):=by
 show(x:Int).fdiv (2 ^ (min ((b:Int).toNat) 64))=_;have:min ((b:Int).toNat) 64=b:=by omega
 rw[this];have e2:(2:Int) ^ b=((2 ^ b:Nat):Int):=by simp
 rw[e2,Int.fdiv_eq_ediv_of_nonneg _ (Int.natCast_nonneg _)];simp
theorem QdZ(x y i:Nat):(x ^^^ (x &&& y)).testBit i=(x.testBit i&&!y.testBit i):=by
 rw[Nat.testBit_xor,Nat.testBit_and];cases x.testBit i<;>cases y.testBit i<;>rfl
theorem QsU(b:Int):0≤QaD b∧QaD b≤62:=by
 simp only[QaD,QT,QU];omega
theorem Qfv{b:Int}(h1:0≤b)(h2:b≤62):QaD b=b:=by
 simp only[QaD,QT,QU];omega
theorem Qge(x b:Int):QmN x b=((u64 x%2 ^ (QaD b).toNat:Nat):Int):=by
 obtain⟨h1,h2⟩:=QsU b;unfold QmN;generalize QaD b=w at h1 h2;obtain⟨k,rfl⟩:=Int.eq_ofNat_of_zero_le h1;have hk:k≤62:=by omega
 have h3:2 ^ k≤2 ^ 62:=QlA hk;have h4:0<2 ^ k:=Nat.pow_pos (by omega);rw[QsS hk];have e:u64 ((2 ^ k-1:Nat):Int)=2 ^ k-1:=Qas (by omega);have e2:u64 x &&& (2 ^ k-1)=u64 x%2 ^ k:=Nat.and_two_pow_sub_one_eq_mod _ _;have h5:u64 x%2 ^ k<2 ^ k:=Nat.mod_lt _ h4;rw[Qfu _ _ (by rw[e,e2];omega),e,e2];simp
end Go.Proofs.YtofgbclopbmlcaaGreat

namespace Go.Fw
open Go.IntKind (i64)
set_option linter.unusedVariables false
set_option linter.unusedSimpArgs false
structure WSpec where
 X:Type
 args:X→List V1
 bl:X→List Blk
 rd:List V1→List Blk→Option X
 out:X→Option Prop×AV×List (Option Blk)×List Blk
def WSpec.spec(s:WSpec):CSpec:={ wr:=true,run:=fun args bl=>match s.rd args bl with
 |some x=>some (s.out x)
 |none=>none }
theorem WSpec.good{P:Program}{T:Tab}{f:FuncId}{fn:Func}(hT:TabOk P T)(hP:Q9 P T)(hf:P.funcs[f]?=some fn)(hn:(fn.name == "runtime.NumGoroutine")=false)(s:WSpec)(hb:fn.body.isSome=true)
 (hrd:∀a b x,s.rd a b=some x→a=s.args x∧b=s.bl x)
 (h:∀x,(∀q,(s.out x).1=some q→q)→Go (QhD P T fn (s.args x) (s.bl x) (s.out x).2.1 (s.out x).2.2.1 (s.out x).2.2.2)):QQ P f s.spec:=by
 refine⟨?_,fn,hf,hn,hb⟩;obtain⟨c,hc⟩:=Option.isSome_iff_exists.1 hb;refine QjR hT hf hc _ fun args bl p r upd fresh hrun hp=>?_
 unfold WSpec.spec at hrun;simp only at hrun;split at hrun
 ·rename_i x hx;obtain⟨rfl,rfl⟩:=hrd _ _ _ hx;injection hrun with hrun
  have h1:=(h x (by rw[hrun];exact hp)).out;rw[hrun,QhE] at h1;refine⟨_,fun E vs _ _ hv=>hv,?_⟩;unfold Qi7 at h1;rw[hc] at h1;simp only[Qhg,Qfk,Qbd] at h1;exact QgS hT hP c h1
 ·cases hrun
theorem WSpec.gd{P:Program}{T:Tab}{f:FuncId}{fn:Func}(hT:TabOk P T)(hP:Q9 P T)(hf:P.funcs[f]?=some fn)(s:WSpec)(hrd:∀a b x,s.rd a b=some x→a=s.args x∧b=s.bl x)
 (h:∀x,(∀q,(s.out x).1=some q→q)→Go (QhD P T fn (s.args x) (s.bl x) (s.out x).2.1 (s.out x).2.2.1 (s.out x).2.2.2)) (hn:(fn.name == "runtime.NumGoroutine")=false:=by kernel_rfl) (hb:fn.body.isSome=true:=by rfl):QQ P f s.spec:=s.good hT hP hf hn hb hrd h
end Go.Fw

namespace Go.Proofs.YtofgbclopbmlcaaGreat
open Go.IntKind (i64)
open Go.Fw
set_option linter.unusedVariables false
set_option linter.unusedSimpArgs false
set_option maxRecDepth 100000
abbrev gD:Sig:=⟨true,.pair (.sl (.int .i64)) (.sl (.int .u8))⟩
abbrev gC:Sig:=⟨true,.pair .str (.pair (.int .i64) (.pair (.int .i64) (.pair (.int .i64) (.sl (.int .u8)))))⟩
abbrev gb:Sig:=⟨false,.sl (.int .u8)⟩
abbrev Dv:=List Int×List Int
abbrev Cv:=ByteArray×Int×Int×Int×List Int
theorem Qj1(n b:Int)(h1:0≤b)(h2:b≤62):QmN n b=n%2 ^ b.toNat:=by
 rw[Qge,Qfv h1 h2];obtain⟨k,rfl⟩:=Int.eq_ofNat_of_zero_le h1;have hk:k≤62:=by omega
 have e:(18446744073709551616:Int)=((2 ^ k:Nat):Int)*((2 ^ (64-k):Nat):Int):=by
  have:(18446744073709551616:Nat)=2 ^ k*2 ^ (64-k):=by
   rw[←Nat.pow_add];have:k+(64-k)=64:=by omega
   rw[this]
  rw[←Int.natCast_mul,←this];rfl
 have e2:(2:Int) ^ k=((2 ^ k:Nat):Int):=by simp
 show((u64 n%2 ^ k:Nat):Int)=n%2 ^ k;rw[e2,Int.natCast_emod];have:((u64 n:Nat):Int)=n%18446744073709551616:=by unfold u64;omega
 rw[this];exact Int.emod_emod_of_dvd n ⟨_,e⟩
def QJC:PSpec:=⟨[gi,gi],fun(n,b,_)=>(some (0≤b∧b≤62),I (n%2 ^ b.toNat),[])⟩
theorem QN:G0 94 QJC.spec:=by
 have hP:S0 _:=Qa QcH (Qb (T:=tree));have hT:=tabs hP Qc;refine QJC.gd hT hP Tryz.func94 fun(a b:Int) hp=>?_
 have hp:0≤b∧b≤62:=hp _ rfl
 repeat' first|(apply Ea;conv=>whnf)|apply Eb|apply Ec<;>intro _|apply Ed<;>intro _|apply Ee<;>intro _|apply Ef hT hP
 ·show 0≤QaD b;simp only[QaD,QT];omega
 ·refine .k [] [] _ rfl (Qd ?_);exact Qj1 a b hp.1 hp.2
def QJD:PSpec:=⟨[gi,gi],fun(n,m,_)=>(some (0<m∧m≤4611686018427387904),I (n%m),[])⟩
theorem QBI(n:Int){m:Int}(h:0<m):-m<n.tmod m∧n.tmod m<m:=by
 constructor
 ·have:=Int.lt_tmod_of_pos n h;omega
 ·exact Int.tmod_lt_of_pos n h
theorem QoJ(n:Int){m:Int}(h:0<m)(h2:m≤4611686018427387904):(i64.wrap (n.tmod m+m)).tmod m=n%m:=by
 obtain⟨h3,h4⟩:=QBI n h;rw[w64 (by omega) (by omega),Int.tmod_eq_emod_of_nonneg (by omega),Int.add_emod_right];by_cases hn:0≤n
 ·rw[Int.tmod_eq_emod_of_nonneg hn,Int.emod_emod]
 ·have e:=Int.mul_tdiv_add_tmod n m;rw[←Int.add_mul_emod_self_left (n.tmod m) m (n.tdiv m),Int.add_comm,e]
theorem Qco:G0 39 QJD.spec:=by
 have hP:S0 _:=(Qb (T:=tree))
 have hT:=tabs hP Qc;refine QJD.gd hT hP Tryz.func39 fun(n m:Int) hp=>?_
 have hp:0<m∧m≤4611686018427387904:=hp _ rfl
 repeat' first|(apply Ea;conv=>whnf)|apply Eb|apply Ec<;>intro _|apply Ed<;>intro _|apply Ee<;>intro _|apply Ef hT hP
 ·omega
 ·omega
 ·refine .k [] [] _ rfl (Qd ?_);exact QoJ n hp.1 hp.2
def QeE(N:List Int):List Int→Nat→List Int
 | [],_=>[]
 |m::ms,i=>N.getD i 0%m::QeE N ms (i+1)
theorem Qcp(N:List Int):∀(ms:List Int) (i:Nat),(QeE N ms i).length=ms.length
 | [],_=>rfl
 |m::ms,i=>by simp[QeE,Qcp N ms]
theorem Qgf(N:List Int):∀(ms:List Int) (i k:Nat),k<ms.length→QeE N (ms.take (k+1)) i=QeE N (ms.take k) i++[N.getD (i+k) 0%ms.getD k 0]
 |m::ms,i,0,_=>by simp[QeE]
 |m::ms,i,k+1,h=>by
  have:=Qgf N ms (i+1) k (by simpa using h);simp only[List.take_succ_cons,QeE,this,List.cons_append];have e:i+1+k=i+(k+1):=by omega
  rw[e];simp
def QgM(N ms:List Int)(k:Nat):List Int:=QeE N (ms.take k) 0++List.replicate (ms.length-k) 0
theorem QlB(N ms:List Int){k:Nat}(h:k≤ms.length):(QgM N ms k).length=ms.length:=by
 simp[QgM,Qcp];omega
theorem QlC(N ms:List Int){k:Nat}(h:k<ms.length):(QgM N ms k).set k (N.getD k 0%ms.getD k 0)=QgM N ms (k+1):=by
 unfold QgM;have hl:(QeE N (ms.take k) 0).length=k:=by rw[Qcp,List.length_take];omega
 have e:ms.length-k=(ms.length-(k+1))+1:=by omega
 rw[e,List.replicate_succ,List.set_append,if_neg (by omega),hl,Nat.sub_self,List.set_cons_zero,Qgf N ms 0 k h];simp
theorem QqL(N ms:List Int){k:Nat}(h:k<ms.length)(h2:N.length≤k):QgM N ms k=QgM N ms (k+1):=by
 rw[←QlC N ms h];have:N.getD k 0=0:=by simp[h2]
 rw[this,Int.zero_emod];have hl:(QeE N (ms.take k) 0).length=k:=by rw[Qcp,List.length_take];omega
 unfold QgM;have e:ms.length-k=(ms.length-(k+1))+1:=by omega
 rw[e,List.replicate_succ,List.set_append,if_neg (by omega),hl,Nat.sub_self,List.set_cons_zero]
def QEo:PSpec:=⟨[gD,gl],fun(d,ms,_)=>(some (List.length ms≤1000∧(∀m∈ms,0<m∧m≤4611686018427387904)),.cell (.own 0),[.arr (.int .i64) (QeE d.1 ms 0)])⟩
theorem QcO:G0 108 QEo.spec:=by
 have hP:S0 _:=Qa Qco (Qb (T:=tree));have hT:=tabs hP Qc;refine QEo.gd hT hP Tryz.func108 fun(d:Dv) (ms:List Int) hp=>?_
 obtain⟨N,M⟩:=d;obtain⟨hp,hm⟩:ms.length≤1000∧(∀m∈ms,0<m∧m≤4611686018427387904):=hp _ rfl
 repeat' first|(apply Ea;conv=>whnf)|apply Eb|apply Ec<;>intro _|apply Ed<;>intro _|apply Ee<;>intro _|apply Ef hT hP
 ·have:ty3.bytes=8:=rfl;rw[this];omega
 refine Qai hT hP (X:=Int×List Int) (fun(i,n)=>St.mk (E2 ((.cell (.ptr 0 0))::E2 ((.cell (.own 1))::E5 ((.cell (.ro (.int .i64) ms))::(I ms.length)::(I i)::E20 (E1 []))))) [some (.var [.ro (.int .i64) N,.ro (.int .u8) M]),some (.arr (.int .i64) n)])
  (fun(i,n)=>∃k:Nat,i=k∧k≤ms.length∧n=QgM N ms k) (fun(i,_)=>(ms.length-i).toNat) (0,List.replicate ms.length 0) (Le.k [] [0,1] ?_) ?_ fun(i,n) hi=>?_
 rotate_right
 repeat' first|(apply Ea;conv=>whnf)|apply Eb|apply Ec<;>intro _|apply Ed<;>intro _|apply Ee<;>intro _|apply Ef hT hP
 ·obtain⟨k,rfl,hk,rfl⟩:=hi;omega
 ·obtain⟨k,rfl,hk,rfl⟩:=hi;omega
 ·obtain⟨k,rfl,hk,rfl⟩:=hi;have hlt:k<ms.length:=by omega
  refine hm _ ?_;show ms.getD k 0∈ms;simp[hlt]
 ·obtain⟨k,rfl,hk,rfl⟩:=hi;rw[QlB N ms hk];omega
 ·obtain⟨k,rfl,hk,rfl⟩:=hi;rw[QlB N ms hk];omega
 ·obtain⟨k,rfl,hk,rfl⟩:=hi;have hlt:k<ms.length:=by omega
  have e:i64.wrap ((k:Int)+1)=((k+1:Nat):Int):=by rw[w64 (by omega) (by omega)];omega
  apply Exists.intro (_,_);refine And.intro ?_ (And.intro ?_ (Le.k [] [0,1] ?hh))
  case hh=>repeat' constructor
  ·exact⟨k+1,e,by omega,QlC N ms hlt⟩
  ·show(ms.length-i64.wrap ((k:Int)+1)).toNat<(ms.length-(k:Int)).toNat;rw[e];omega
 ·obtain⟨k,rfl,hk,rfl⟩:=hi;have hlt:k<ms.length:=by omega
  have e:i64.wrap ((k:Int)+1)=((k+1:Nat):Int):=by rw[w64 (by omega) (by omega)];omega
  apply Exists.intro (_,_);refine And.intro ?_ (And.intro ?_ (Le.k [] [0,1] ?hh))
  case hh=>repeat' constructor
  ·exact⟨k+1,e,by omega,QqL N ms hlt (by omega)⟩
  ·show(ms.length-i64.wrap ((k:Int)+1)).toNat<(ms.length-(k:Int)).toNat;rw[e];omega
 ·obtain⟨k,rfl,hk,rfl⟩:=hi;refine .mk [] [1] _ R R R R R ?_ rfl;have e:k=ms.length:=by omega
  subst e;show[some (Blk.arr (.int .i64) (QgM N ms ms.length))]=[some (Blk.arr (.int .i64) (QeE N ms 0))]
  simp[QgM]
 ·repeat' constructor
 ·exact⟨0,rfl,by omega,by simp[QgM,QeE]⟩
abbrev Qfb:AV:=.agg [.own 0,.imm (.slice none 0 0)]
def QbU(l:List Int)(a:Int):Int:=if a<0 then 0 else if a≥l.length then 0 else l.getD a.toNat 0
def QBJ:WSpec:=⟨List Int×Int,fun x=>[.c (.own 0),.c (.ptr 1 0)],fun x=>[.arr (.int .i64) x.1,.var [iv .i64 x.2]],fun a b=>(match a,b with| [.c (.own 0),.c (.ptr 1 0)],[.arr (.int .i64) l,.var [.imm (.int .i64 n)]]=>some (l,n)|_,_=>none),
 fun x=>(none,I (QbU x.1 x.2),[some (.arr (.int .i64) x.1),some (.var [iv .i64 x.2])],[])⟩
theorem Qgg:G0 142 QBJ.spec:=by
 have hP:S0 _:=(Qb (T:=tree))
 have hT:=tabs hP Qc;refine QBJ.gd hT hP Tryz.func142 ?_ fun((l,a):List Int×Int) _=>?_
 ·intro a b x h;simp only[QBJ] at h;split at h
  ·injection h with h;subst h;exact⟨rfl,rfl⟩
  ·cases h
 repeat' first|(apply Ea;conv=>whnf)|apply Eb|apply Ec<;>intro _|apply Ed<;>intro _|apply Ee<;>intro _|apply Ef hT hP
 ·rename_i h;refine .k [] [0,1] _ rfl (Qd ?_);show 0=QbU l a;rw[QbU,if_pos h]
 ·rename_i h h2;refine .k [] [0,1] _ rfl (Qd ?_);show 0=QbU l a;rw[QbU,if_neg h,if_pos h2]
 ·dsimp only at *;omega
 ·dsimp only at *;omega
 ·rename_i h h2;refine .k [] [0,1] _ rfl (Qd ?_);show _=QbU l a;rw[QbU,if_neg h,if_neg h2];rfl
theorem QhF{l:List Int}{a:Int}(h:∀i:Nat,i<l.length→¬a=i):QbU l a=0:=by
 unfold QbU;split
 ·rfl
 ·split
  ·rfl
  ·rename_i h1 h2;exact absurd (by omega:a=(a.toNat:Int)) (h a.toNat (by omega))
theorem Ql{l l':List Int}(h:l=l'):[some (Blk.arr (.int .i64) l)]=[some (Blk.arr (.int .i64) l')]:=by rw[h]
def Qq(f:List Int→List Int):Nat→List Int→List Int
 |0,l=>l
 |n+1,l=>Qq f n (f l)
theorem Qfw(f:List Int→List Int):∀(m n:Nat) (l:List Int),Qq f (m+n) l=Qq f n (Qq f m l)
 |0,n,l=>by rw[Nat.zero_add];rfl
 |m+1,n,l=>by
  have e:m+1+n=(m+n)+1:=by omega
  rw[e];exact Qfw f m n (f l)
theorem QR(f:List Int→List Int)(n:Nat)(l:List Int):Qq f (n+1) l=f (Qq f n l):=by
 rw[Qfw f n 1];rfl
theorem QhG{f:List Int→List Int}{l:List Int}(h:f l=l):∀n,Qq f n l=l
 |0=>rfl
 |n+1=>by rw[Qq,h];exact QhG h n
abbrev s0(N:List Int):Int:=N.getD 0 0%256
abbrev s1(N:List Int):Int:=N.getD 1 0%64
abbrev s2(N:List Int):Int:=N.getD 2 0%256
abbrev s3(N:List Int):Int:=N.getD 3 0%2
abbrev s4(N:List Int):Int:=N.getD 4 0%2
abbrev s5(N:List Int):Int:=N.getD 5 0%4
abbrev s6(N:List Int):Int:=N.getD 6 0%1048576
abbrev s7(N:List Int):Int:=N.getD 7 0%256
def Qa9(N:List Int):List Int:=[s0 N,s1 N,s2 N,s3 N,s4 N,s5 N,s6 N,s7 N]
theorem Qdt(N:List Int):Qa9 N=[s0 N,s1 N,s2 N,s3 N,s4 N,s5 N,s6 N,s7 N]:=rfl
theorem sR(N:List Int):(0≤s0 N∧s0 N<256)∧(0≤s1 N∧s1 N<64)∧(0≤s2 N∧s2 N<256)∧(0≤s3 N∧s3 N<2)∧(0≤s4 N∧s4 N<2)∧(0≤s5 N∧s5 N<4)∧(0≤s6 N∧s6 N<1048576)∧(0≤s7 N∧s7 N<256):=by
 unfold s0 s1 s2 s3 s4 s5 s6 s7;omega
def Qab:List Int→List Int
 | [a,l,g,f,o,c,s,z]=>if l>0 then (if l-1=0 then [a,0,g,f,o,c,(s+1)%1048576,a] else [a,l-1,g,f,o,c,s,z]) else [a,l,g,f,o,c,s,z]
 |l=>l
theorem Qfx{a l g f o c s z:Int}(h0:0≤a∧a<256)(h1:0≤l∧l<64)(h2:0≤g∧g<256)(h3:0≤f∧f<2)(h4:0≤o∧o<2)(h5:0≤c∧c<4)(h6:0≤s∧s<1048576)(h7:0≤z∧z<256) :
 Qa9 [a,l,g,f,o,c,s,z]=[a,l,g,f,o,c,s,z]:=by
 show[a%256,l%64,g%256,f%2,o%2,c%4,s%1048576,z%256]=_;rw[Int.emod_eq_of_lt h0.1 h0.2,Int.emod_eq_of_lt h1.1 h1.2,Int.emod_eq_of_lt h2.1 h2.2,Int.emod_eq_of_lt h3.1 h3.2,Int.emod_eq_of_lt h4.1 h4.2,Int.emod_eq_of_lt h5.1 h5.2,Int.emod_eq_of_lt h6.1 h6.2,Int.emod_eq_of_lt h7.1 h7.2]
theorem QhH(N:List Int):Qa9 (Qa9 N)=Qa9 N:=by
 obtain⟨h0,h1,h2,h3,h4,h5,h6,h7⟩:=sR N;exact Qfx h0 h1 h2 h3 h4 h5 h6 h7
theorem Qna{a l g f o c s z:Int}(h0:0≤a∧a<256)(h1:0≤l∧l<64)(h2:0≤g∧g<256)(h3:0≤f∧f<2)(h4:0≤o∧o<2)(h5:0≤c∧c<4)(h6:0≤s∧s<1048576)(h7:0≤z∧z<256) :
 Qa9 (Qab [a,l,g,f,o,c,s,z])=Qab [a,l,g,f,o,c,s,z]:=by
 by_cases e1:l>0
 ·by_cases e2:l-1=0
  ·have e:Qab [a,l,g,f,o,c,s,z]=[a,0,g,f,o,c,(s+1)%1048576,a]:=by rw[Qab,if_pos e1,if_pos e2]
   rw[e];exact Qfx h0 (by omega) h2 h3 h4 h5 (by omega) h0
  ·have e:Qab [a,l,g,f,o,c,s,z]=[a,l-1,g,f,o,c,s,z]:=by rw[Qab,if_pos e1,if_neg e2]
   rw[e];exact Qfx h0 (by omega) h2 h3 h4 h5 h6 h7
 ·have e:Qab [a,l,g,f,o,c,s,z]=[a,l,g,f,o,c,s,z]:=by rw[Qab,if_neg e1]
  rw[e];exact Qfx h0 h1 h2 h3 h4 h5 h6 h7
theorem QqM{l:List Int}(h:Qa9 l=l):Qa9 (Qab l)=Qab l:=by
 obtain⟨h0,h1,h2,h3,h4,h5,h6,h7⟩:=sR l;have:=Qna h0 h1 h2 h3 h4 h5 h6 h7;rw[←Qdt,h] at this;exact this
theorem Qel(N:List Int):∀n,Qa9 (Qq Qab n (Qa9 N))=Qq Qab n (Qa9 N)
 |0=>QhH N
 |n+1=>by rw[QR];exact QqM (Qel N n)
theorem QoK{a g f o c s z:Int}(n:Nat):Qq Qab n [a,0,g,f,o,c,s,z]=[a,0,g,f,o,c,s,z]:=QhG rfl n
theorem Qnb{a g f o c s z:Int}:∀(n:Nat) (l:Int),(n:Int)<l→Qq Qab n [a,l,g,f,o,c,s,z]=[a,l-n,g,f,o,c,s,z]
 |0,l,_=>by rw[Qq];simp
 |n+1,l,h=>by
  rw[Qq,Qab,if_pos (by omega),if_neg (by omega),Qnb n (l-1) (by omega)];have:l-1-(n:Int)=l-((n+1:Nat):Int):=by omega
  rw[this]
theorem QBK{a l g f o c s z:Int}(hl:0<l)(n:Nat)(h:l≤n):Qq Qab n [a,l,g,f,o,c,s,z]=[a,0,g,f,o,c,(s+1)%1048576,a]:=by
 have e:n=(l-1).toNat+((n-l.toNat)+1):=by omega
 rw[e,Qfw,Qnb _ _ (by omega)];have e1:l-(((l-1).toNat:Nat):Int)=1:=by omega
 rw[e1,Qq,Qab,if_pos (by omega),if_pos (by omega)];exact QoK _
def QoL:PSpec:=⟨[gC,gD],fun(c,d,_)=>(some (c.2.1=5),Qfb,[.arr (.int .i64) (Qa9 d.1)])⟩
theorem Qbu:G0 58 QoL.spec:=by
 have hP:S0 _:=Qa QcO (Qb (T:=tree));have hT:=tabs hP Qc;refine QoL.gd hT hP Tryz.func58 fun(c:Cv) (d:Dv) hp=>?_
 obtain⟨cn,ck,cb,cs,cd⟩:=c;obtain rfl:ck=5:=hp _ rfl;obtain⟨N,M⟩:=d
 repeat' first|(apply Ea;conv=>whnf)|apply Eb|apply Ec<;>intro _|apply Ed<;>intro _|apply Ee<;>intro _|apply Ef hT hP|apply Eg hT hP
 ·exact(by decide:([256,64,256,2,2,4,1048576,256]:List Int).length≤1000∧∀m∈([256,64,256,2,2,4,1048576,256]:List Int),0<m∧m≤4611686018427387904)
 ·exact .k [] [5] _ R R
def QEp:PSpec:=⟨[gD],fun(d,_)=>(none,.cell (.own 0),[.arr (.int .i64) (Qa9 d.1)])⟩
theorem QeY:G0 203 QEp.spec:=by
 have hP:S0 _:=Qa QN (Qb (T:=tree));have hT:=tabs hP Qc;refine QEp.gd hT hP Tryz.func203 fun(d:Dv) _=>?_
 obtain⟨N,M⟩:=d
 repeat' first|(apply Ea;conv=>whnf)|apply Eb|apply Ec<;>intro _|apply Ed<;>intro _|apply Ee<;>intro _|apply Ef hT hP|apply Eg hT hP
 ·exact of_decide_eq_true rfl
 refine QX 9 ?_
 repeat' first|(apply Ea;conv=>whnf)|apply Eb|apply Ec<;>intro _|apply Ed<;>intro _|apply Ee<;>intro _|apply Ef hT hP|apply Eg hT hP
 all_goals first
  |exact of_decide_eq_true rfl
  |exact .k [] [1] _ R R
def QEq:PSpec:=⟨[],fun _=>(none,Qfb,[.arr (.int .i64) [0,0,0,0,0,0,0,0]])⟩
theorem QBL:G0 112 QEq.spec:=by
 have hP:S0 _:=(Qb (T:=tree))
 have hT:=tabs hP Qc;refine QEq.gd hT hP Tryz.func112 fun _=>?_
 repeat' first|(apply Ea;conv=>whnf)|apply Eb|apply Ec<;>intro _|apply Ed<;>intro _|apply Ee<;>intro _|apply Ef hT hP|apply Eg hT hP
 all_goals first
  |exact of_decide_eq_true rfl
  |exact .k [] [1] _ R R
def QoM:PSpec:=⟨[gC,gD],fun(c,d,_)=>(some (c.2.1=5),Qfb,[.arr (.int .i64) (Qab (Qa9 d.1))])⟩
theorem QqN:G0 79 QoM.spec:=by
 have hP:S0 _:=Qa Qbu (Qb (T:=tree));have hT:=tabs hP Qc;refine QoM.gd hT hP Tryz.func79 fun(c:Cv) (d:Dv) hp=>?_
 obtain⟨cn,ck,cb,cs,cd⟩:=c;obtain rfl:ck=5:=hp _ rfl;obtain⟨N,M⟩:=d;obtain⟨h0,h1,h2,h3,h4,h5,h6,h7⟩:=sR N
 repeat' first|(apply Ea;conv=>whnf)|apply Eb|apply Ec<;>intro _|apply Ed<;>intro _|apply Ee<;>intro _|apply Ef hT hP|apply Eg hT hP
 all_goals first
  |exact rfl
  |exact of_decide_eq_true rfl
  |skip
 ·rename_i g1 g2;have g1:s1 N>0:=g1;have g2:i64.wrap (s1 N-1)=0:=g2;rw[w64 (by omega) (by omega)] at g2;refine .mk [] [3] _ R R R R R (Ql (l:=[s0 N,i64.wrap (s1 N-1),s2 N,s3 N,s4 N,s5 N,Int.tmod (i64.wrap (s6 N+1)) 1048576,s0 N]) ?_) rfl;show _=Qab (Qa9 N);rw[Qdt,Qab,if_pos g1,if_pos g2,w64 (x:=s1 N-1) (by omega) (by omega),g2,w64 (x:=s6 N+1) (by omega) (by omega),Int.tmod_eq_emod_of_nonneg (by omega)]
 ·rename_i g1 g2;have g1:s1 N>0:=g1;have g2:¬i64.wrap (s1 N-1)=0:=g2;rw[w64 (by omega) (by omega)] at g2;refine .mk [] [3] _ R R R R R (Ql (l:=[s0 N,i64.wrap (s1 N-1),s2 N,s3 N,s4 N,s5 N,s6 N,s7 N]) ?_) rfl;show _=Qab (Qa9 N);rw[Qdt,Qab,if_pos g1,if_neg g2,w64 (x:=s1 N-1) (by omega) (by omega)]
 ·rename_i g1;have g1:¬s1 N>0:=g1;refine .mk [] [3] _ R R R R R (Ql (l:=Qa9 N) ?_) rfl;show _=Qab (Qa9 N);rw[Qdt,Qab,if_neg g1]
def Qz0:PSpec:=⟨[gD,gi],fun(d,k,_)=>(some (k≤4611686018427387904),Qfb,[.arr (.int .i64) (Qq Qab k.toNat (Qa9 d.1))])⟩
theorem Qxg:G0 159 Qz0.spec:=by
 have hP:S0 _:=Qa QeY (Qa QN (Qb (T:=tree)));have hT:=tabs hP Qc;refine Qz0.gd hT hP Tryz.func159 fun(d:Dv) (k:Int) hp=>?_
 have hp:k≤4611686018427387904:=hp _ rfl;obtain⟨N,M⟩:=d;obtain⟨h0,h1,h2,h3,h4,h5,h6,h7⟩:=sR N
 repeat' first|(apply Ea;conv=>whnf)|apply Eb|apply Ec<;>intro _|apply Ed<;>intro _|apply Ee<;>intro _|apply Ef hT hP|apply Eg hT hP
 all_goals first
  |exact rfl
  |exact of_decide_eq_true rfl
  |skip
 ·rename_i g;refine .mk [] [2] _ R R R R R (Ql (l:=Qa9 N) ?_) rfl;show _=Qq Qab k.toNat (Qa9 N);have:k.toNat=0:=by omega
  rw[this];rfl
 ·rename_i g0 g;have g:s1 N=0:=g;refine .mk [] [2] _ R R R R R (Ql (l:=Qa9 N) ?_) rfl;show _=Qq Qab k.toNat (Qa9 N);rw[Qdt,g,QoK]
 ·rename_i g0 g g2;have g2:k<s1 N:=g2;refine .mk [] [2] _ R R R R R (Ql (l:=[s0 N,i64.wrap (s1 N-k),s2 N,s3 N,s4 N,s5 N,s6 N,s7 N]) ?_) rfl;show _=Qq Qab k.toNat (Qa9 N);rw[Qdt,Qnb _ _ (by omega),w64 (by omega) (by omega)];have:((k.toNat:Nat):Int)=k:=by omega
  rw[this]
 ·rename_i g0 g g2;have g:¬s1 N=0:=g;have g2:¬k<s1 N:=g2;refine .mk [] [2] _ R R R R R (Ql (l:=[s0 N,0,s2 N,s3 N,s4 N,s5 N,i64.wrap (s6 N+1)%1048576,s0 N]) ?_) rfl;show _=Qq Qab k.toNat (Qa9 N);rw[Qdt,QBK (by omega) _ (by omega),w64 (by omega) (by omega)]
def QlD(N:List Int)(k:Int):List Int:=[s0 N,s1 N,if s3 N=1 then s2 N else k%256,1,if s3 N=1 then 1 else s4 N,s5 N,s6 N,s7 N]
def QJE:PSpec:=⟨[gD,gi],fun(d,k,_)=>(none,Qfb,[.arr (.int .i64) (QlD d.1 k)])⟩
theorem QEr:G0 242 QJE.spec:=by
 have hP:S0 _:=Qa QeY (Qa QN (Qb (T:=tree)));have hT:=tabs hP Qc;refine QJE.gd hT hP Tryz.func242 fun(d:Dv) (k:Int) _=>?_
 obtain⟨N,M⟩:=d
 repeat' first|(apply Ea;conv=>whnf)|apply Eb|apply Ec<;>intro _|apply Ed<;>intro _|apply Ee<;>intro _|apply Ef hT hP|apply Eg hT hP
 all_goals first
  |exact of_decide_eq_true rfl
  |(rename_i h
    have h:s3 N=1:=h;refine .mk [] [2] _ R R R R R (Ql (l:=[s0 N,s1 N,s2 N,s3 N,1,s5 N,s6 N,s7 N]) ?_) rfl;show _=QlD N k
    rw[QlD,if_pos h,if_pos h,h])
  |(rename_i h
    have h:¬s3 N=1:=h;refine .mk [] [2] _ R R R R R (Ql (l:=[s0 N,s1 N,k%2 ^ (8:Int).toNat,1,s4 N,s5 N,s6 N,s7 N]) ?_) rfl;show _=QlD N k
    rw[QlD,if_neg h,if_neg h];rfl)
def QdL(b:Bool):Int:=match b with|true=>1|false=>0
def QoN:PSpec:=⟨[⟨false,.bool⟩],fun(b,_)=>(none,I (QdL b),[])⟩
theorem Qxh:G0 234 QoN.spec:=by
 have hP:S0 _:=(Qb (T:=tree))
 have hT:=tabs hP Qc;refine QoN.gd hT hP Tryz.func234 fun(b:Bool) _=>?_
 repeat' first|(apply Ea;conv=>whnf)|apply Eb|apply Ec<;>intro _|apply Ed<;>intro _|apply Ee<;>intro _|apply Ef hT hP|apply Eg hT hP
 all_goals
  rename_i h;subst h;exact .k [] [] _ R R
theorem Qnc:G0 119 QoN.spec:=by
 have hP:S0 _:=(Qb (T:=tree))
 have hT:=tabs hP Qc;refine QoN.gd hT hP Tryz.func119 fun(b:Bool) _=>?_
 repeat' first|(apply Ea;conv=>whnf)|apply Eb|apply Ec<;>intro _|apply Ed<;>intro _|apply Ee<;>intro _|apply Ef hT hP|apply Eg hT hP
 all_goals
  rename_i h;subst h;exact .k [] [] _ R R
theorem QBM(f o:Int)(b:Bool)(h3:0≤f∧f<2)(h4:0≤o∧o<2):lor .i64 (lor .i64 f (shl .i64 (QdL b) 1)) (shl .i64 o 2)=f+2*QdL b+4*o:=by
 have e1:f=0∨f=1:=by omega
 have e2:o=0∨o=1:=by omega
 rcases e1 with rfl|rfl<;>rcases e2 with rfl|rfl<;>cases b<;>decide +kernel
theorem Qcq{x y:Int}(h2:x=y):AV.tup [.agg [.own 0,.imm (.slice none 0 0)],I1 x]=AV.tup [.agg [.own 0,.imm (.slice none 0 0)],I1 y]:=by rw[h2]
def srF(N:List Int)(a:Int):Int:=QbU [s2 N,s3 N+2*QdL (decide (s1 N>0))+4*s4 N,s5 N] a
def srN(N:List Int)(a:Int):List Int:=[s0 N,s1 N,s2 N,if a=0 then 0 else s3 N,if a=1 then 0 else s4 N,s5 N,s6 N,s7 N]
def Qz1:PSpec:=⟨[gD,gi],fun(d,a,_)=>(none,.tup [.agg [.own 0,.imm (.slice none 0 0)],I1 (srF d.1 a)],[.arr (.int .i64) (srN d.1 a)])⟩
theorem Qxi:G0 175 Qz1.spec:=by
 have hP:S0 _:=Qa QeY (Qa Qxh (Qb (T:=tree)));have hT:=tabs hP Qc;refine Qz1.gd hT hP Tryz.func175 fun(d:Dv) (a:Int) _=>?_
 obtain⟨N,M⟩:=d;obtain⟨h0,h1,h2,h3,h4,h5,h6,h7⟩:=sR N
 repeat' first|(apply Ea;conv=>whnf)|apply Eb|apply Ec<;>intro _|apply Ed<;>intro _|apply Ee<;>intro _|apply Ef hT hP|apply Eg hT hP
 all_goals(try subst_vars)
 all_goals first
  |exact rfl
  |exact of_decide_eq_true rfl
  |exact .k [] [2] _ R R
  |skip
 ·refine .k [] [2] _ rfl (Qcq ?_);exact QBM (s3 N) (s4 N) (decide (s1 N>0)) h3 h4
 ·rename_i g0 g1 g2
  have e:srF N a=0:=QhF fun i hi=>by
   have:i<3:=hi;omega
  refine .mk [] [2] _ R R R R R (Ql (l:=Qa9 N) ?_) (Qcq e.symm);show _=srN N a;rw[Qdt,srN,if_neg g0,if_neg g1]
end Go.Proofs.YtofgbclopbmlcaaGreat

