/- Part 20 of the proof. Conditions: none. -/
import Derived.Test.YtofgbclopbmlcaaGreatG17
namespace Go.Proofs.YtofgbclopbmlcaaGreat
open Go.IntKind (i64)
open Go.Fw
set_option linter.unusedVariables false
set_option linter.unusedSimpArgs false
theorem QEK(c:Int):land .i64 c 1=((u64 c%2:Nat):Int):=by
 have e:u64 c &&& u64 1=u64 c%2:=by
  have:u64 1=2 ^ 1-1:=by decide
  rw[this,Nat.and_two_pow_sub_one_eq_mod]
 rw[Qfu _ _ (by rw[e];omega),e]
theorem Qtu{a k:Nat}(h:a<2 ^ 63)(hk:k≤62):land .i64 (shr .i64 (a:Int) (k:Int)) 1=((a/2 ^ k%2:Nat):Int):=by
 have:a/2 ^ k<2 ^ 63:=Nat.lt_of_le_of_lt (Nat.div_le_self _ _) h;rw[QzZ (by omega),QEK,Qas (by omega)]
def QlW(n:List Int)(m:Int):Nat→Int
 |0=>0
 |k+1=>i64.wrap (QlW n m k+shl .i64 (land .i64 (shr .i64 (n.getD (land .i64 (shr .i64 m k) 1).toNat 0) k) 1) k)
theorem Qo2(x l m:Nat)(hx:x<256)(hl:l<256)(hm:m<256):∀k,k≤8→QlW [(x:Int),l,m] m k=((((l &&& m) ||| (x ^^^ (x &&& m)))%2 ^ k:Nat):Int)
 |0,_=>by simp[QlW,Nat.mod_one]
 |k+1,h=>by
  have ih:=Qo2 x l m hx hl hm k (by omega);generalize hX:(l &&& m) ||| (x ^^^ (x &&& m))=X at ih ⊢
  have hsel:∃s:Nat,([(x:Int),l,m].getD (land .i64 (shr .i64 (m:Int) k) 1).toNat 0)=(s:Int)∧s<256∧s/2 ^ k%2=X/2 ^ k%2:=by
   have e1:X.testBit k=((l.testBit k&&m.testBit k)||(x.testBit k&&!m.testBit k)):=by
    rw[←hX,Nat.testBit_or,Nat.testBit_and,QdZ]
   rw[Qtu (by omega) (by omega)];rcases Nat.mod_two_eq_zero_or_one (m/2 ^ k) with h0|h0
   ·refine⟨x,by rw[h0];rfl,hx,?_⟩;rw[←Nat.toNat_testBit,←Nat.toNat_testBit,e1];have:m.testBit k=false:=by rw[Nat.testBit_eq_decide_div_mod_eq,h0];rfl
    rw[this];simp
   ·refine⟨l,by rw[h0];rfl,hl,?_⟩;rw[←Nat.toNat_testBit,←Nat.toNat_testBit,e1];have:m.testBit k=true:=by rw[Nat.testBit_eq_decide_div_mod_eq,h0];rfl
    rw[this];simp
  obtain⟨s,hs,hs2,hs3⟩:=hsel;have hp:2 ^ (k+1)≤2 ^ 8:=QlA h;have hp0:0<2 ^ k:=Nat.pow_pos (by omega);have hb:X/2 ^ k%2≤1:=by omega
  have hmul:X/2 ^ k%2*2 ^ k≤1*2 ^ k:=Nat.mul_le_mul_right _ hb;have hr:X%2 ^ k<2 ^ k:=Nat.mod_lt _ hp0;rw[Nat.pow_succ] at hp;rw[QlW,hs,Qtu (by omega) (by omega),hs3,ih,QsT (by omega) (by omega),w64 (by omega) (by omega),Nat.pow_succ,Nat.mod_mul,Nat.mul_comm (2 ^ k)];omega
theorem QB6(x l m:Int)(hx:0≤x∧x<256)(hl:0≤l∧l<256)(hm:0≤m∧m<256):QlW [x,l,m] m 8=lor .i64 (land .i64 l m) (Q3 .i64 x m):=by
 obtain⟨x,rfl⟩:=Int.eq_ofNat_of_zero_le hx.1;obtain⟨l,rfl⟩:=Int.eq_ofNat_of_zero_le hl.1;obtain⟨m,rfl⟩:=Int.eq_ofNat_of_zero_le hm.1;have h1:l &&& m<2 ^ 8:=Nat.and_lt_two_pow _ (by omega);have h2:x ^^^ (x &&& m)<2 ^ 8:=Nat.xor_lt_two_pow (by omega) (Nat.and_lt_two_pow _ (by omega));have h3:(l &&& m) ||| (x ^^^ (x &&& m))<2 ^ 8:=Nat.or_lt_two_pow h1 h2
 rw[Qo2 x l m (by omega) (by omega) (by omega) 8 (by omega),Nat.mod_eq_of_lt h3]
 have e1:land .i64 (l:Int) m=((l &&& m:Nat):Int):=by
  rw[Qfu _ _ (by rw[Qas (by omega),Qas (by omega)];omega),Qas (by omega),Qas (by omega)]
 have e2:Q3 .i64 (x:Int) m=((x ^^^ (x &&& m):Nat):Int):=by
  rw[Qds _ _ (by rw[Qas (by omega)];omega),Qas (by omega),Qas (by omega)]
 rw[e1,e2,Qgd _ _ (by rw[Qas (by omega),Qas (by omega)];omega),Qas (by omega),Qas (by omega)]
set_option maxRecDepth 100000
def Qax(N:List Int):List Int:=[N.getD 0 0%256,N.getD 1 0%256,N.getD 2 0%256]
def Qo3:PSpec:=⟨[gC,gD],fun(c,d,_)=>(some (c.2.1=4),Qfb,[.arr (.int .i64) (Qax d.1)])⟩
theorem Qc7:G0 58 Qo3.spec:=by
 have hP:S0 _:=Qa QcO (Qb (T:=tree));have hT:=tabs hP Qc;refine Qo3.gd hT hP Tryz.func58 fun(c:Cv) (d:Dv) hp=>?_
 obtain⟨cn,ck,cb,cs,cd⟩:=c;obtain rfl:ck=4:=hp _ rfl;obtain⟨N,M⟩:=d
 repeat' first|(apply Ea;conv=>whnf)|apply Eb|apply Ec<;>intro _|apply Ed<;>intro _|apply Ee<;>intro _|apply Ef hT hP|apply Eg hT hP
 ·exact(by decide:([256,256,256]:List Int).length≤1000∧∀m∈([256,256,256]:List Int),0<m∧m≤4611686018427387904)
 ·exact .k [] [5] _ R R
def QEL:PSpec:=⟨[],fun _=>(none,Qfb,[.arr (.int .i64) [255,0,0]])⟩
theorem QB7:G0 111 QEL.spec:=by
 have hP:S0 _:=(Qb (T:=tree))
 have hT:=tabs hP Qc;refine QEL.gd hT hP Tryz.func111 fun _=>?_
 repeat' first|(apply Ea;conv=>whnf)|apply Eb|apply Ec<;>intro _|apply Ed<;>intro _|apply Ee<;>intro _|apply Ef hT hP|apply Eg hT hP
 exact .k [] [1] _ R R
def QAf:PSpec:=⟨[gD],fun(d,_)=>(none,.cell (.own 0),[.arr (.int .i64) (Qax d.1)])⟩
theorem QgY:G0 227 QAf.spec:=by
 have hP:S0 _:=Qa QN (Qb (T:=tree));have hT:=tabs hP Qc;refine QAf.gd hT hP Tryz.func227 fun(d:Dv) _=>?_
 obtain⟨N,M⟩:=d
 repeat' first|(apply Ea;conv=>whnf)|apply Eb|apply Ec<;>intro _|apply Ed<;>intro _|apply Ee<;>intro _|apply Ef hT hP|apply Eg hT hP
 ·exact of_decide_eq_true rfl
 refine QX 4 ?_
 repeat' first|(apply Ea;conv=>whnf)|apply Eb|apply Ec<;>intro _|apply Ed<;>intro _|apply Ee<;>intro _|apply Ef hT hP|apply Eg hT hP
 all_goals first
  |exact of_decide_eq_true rfl
  |exact .k [] [1] _ R R
def QEM:PSpec:=⟨[gD],fun(d,_)=>(none,I (land .i64 (d.1.getD 1 0%256) (d.1.getD 2 0%256)),[])⟩
theorem QB8:G0 215 QEM.spec:=by
 have hP:S0 _:=Qa QgY (Qb (T:=tree));have hT:=tabs hP Qc;refine QEM.gd hT hP Tryz.func215 fun(d:Dv) _=>?_
 obtain⟨N,M⟩:=d
 repeat' first|(apply Ea;conv=>whnf)|apply Eb|apply Ec<;>intro _|apply Ed<;>intro _|apply Ee<;>intro _|apply Ef hT hP|apply Eg hT hP
 all_goals first
  |exact of_decide_eq_true rfl
  |exact .k [] [] _ R R
def Qtv:PSpec:=⟨[gC,gD],fun(c,d,_)=>(some (c.2.1=4),I (land .i64 (d.1.getD 1 0%256) (d.1.getD 2 0%256)),[])⟩
theorem Qtw:G0 72 Qtv.spec:=by
 have hP:S0 _:=Qa Qc7 (Qb (T:=tree));have hT:=tabs hP Qc;refine Qtv.gd hT hP Tryz.func72 fun(c:Cv) (d:Dv) hp=>?_
 obtain⟨cn,ck,cb,cs,cd⟩:=c;obtain rfl:ck=4:=hp _ rfl;obtain⟨N,M⟩:=d
 repeat' first|(apply Ea;conv=>whnf)|apply Eb|apply Ec<;>intro _|apply Ed<;>intro _|apply Ee<;>intro _|apply Ef hT hP|apply Eg hT hP
 all_goals first
  |exact rfl
  |exact of_decide_eq_true rfl
  |exact .k [] [] _ R R
def QxC(N:List Int)(k:Int):List Int:=[k%256,N.getD 1 0%256,N.getD 2 0%256]
def QJH:PSpec:=⟨[gD,gi],fun(d,k,_)=>(none,Qfb,[.arr (.int .i64) (QxC d.1 k)])⟩
theorem QEN:G0 157 QJH.spec:=by
 have hP:S0 _:=Qa QgY (Qa QN (Qb (T:=tree)));have hT:=tabs hP Qc;refine QJH.gd hT hP Tryz.func157 fun(d:Dv) (k:Int) _=>?_
 obtain⟨N,M⟩:=d
 repeat' first|(apply Ea;conv=>whnf)|apply Eb|apply Ec<;>intro _|apply Ed<;>intro _|apply Ee<;>intro _|apply Ef hT hP|apply Eg hT hP
 all_goals first
  |exact of_decide_eq_true rfl
  |exact .k [] [2] _ R R
def Qtx:PSpec:=⟨[gC,gD,gi],fun(c,d,k,_)=>(some (c.2.1=4),Qfb,[.arr (.int .i64) (QxC d.1 k)])⟩
theorem Qty:G0 73 Qtx.spec:=by
 have hP:S0 _:=Qa Qc7 (Qa Qco (Qb (T:=tree)));have hT:=tabs hP Qc;refine Qtx.gd hT hP Tryz.func73 fun(c:Cv) (d:Dv) (k:Int) hp=>?_
 obtain⟨cn,ck,cb,cs,cd⟩:=c;obtain rfl:ck=4:=hp _ rfl;obtain⟨N,M⟩:=d
 repeat' first|(apply Ea;conv=>whnf)|apply Eb|apply Ec<;>intro _|apply Ed<;>intro _|apply Ee<;>intro _|apply Ef hT hP|apply Eg hT hP
 all_goals first
  |exact rfl
  |exact of_decide_eq_true rfl
  |exact .k [] [3] _ R R
def pwN(N:List Int)(at_ k:Int):List Int:=[N.getD 0 0%256,if at_=0 then k%256 else N.getD 1 0%256,if at_=1 then k%256 else N.getD 2 0%256]
def Qtz:PSpec:=⟨[gD,gi,gi],fun(d,at_,k,_)=>(none,Qfb,[.arr (.int .i64) (pwN d.1 at_ k)])⟩
theorem QtA:G0 181 Qtz.spec:=by
 have hP:S0 _:=Qa QgY (Qa QN (Qb (T:=tree)));have hT:=tabs hP Qc;refine Qtz.gd hT hP Tryz.func181 fun(d:Dv) (a k:Int) _=>?_
 obtain⟨N,M⟩:=d
 repeat' first|(apply Ea;conv=>whnf)|apply Eb|apply Ec<;>intro _|apply Ed<;>intro _|apply Ee<;>intro _|apply Ef hT hP|apply Eg hT hP
 all_goals(try subst_vars)
 all_goals first
  |exact of_decide_eq_true rfl
  |exact .k [] [2] _ R R
  |skip
 rename_i h0 h1;refine .mk [] [2] _ R R R R R ?_ rfl;show[some (Blk.arr (.int .i64) (Qax N))]=[some (Blk.arr (.int .i64) (pwN N a k))]
 simp only[pwN,if_neg h0,if_neg h1];rfl
def Qo4:PSpec:=⟨[gC,gD,gi,gi],fun(c,d,at_,k,_)=>(some (c.2.1=4),Qfb,[.arr (.int .i64) (pwN d.1 at_ k)])⟩
theorem QqZ:G0 77 Qo4.spec:=by
 have hP:S0 _:=Qa Qc7 (Qa Qco (Qb (T:=tree)));have hT:=tabs hP Qc;refine Qo4.gd hT hP Tryz.func77 fun(c:Cv) (d:Dv) (a k:Int) hp=>?_
 obtain⟨cn,ck,cb,cs,cd⟩:=c;obtain rfl:ck=4:=hp _ rfl;obtain⟨N,M⟩:=d
 repeat' first|(apply Ea;conv=>whnf)|apply Eb|apply Ec<;>intro _|apply Ed<;>intro _|apply Ee<;>intro _|apply Ef hT hP|apply Eg hT hP
 all_goals(try subst_vars)
 all_goals first
  |exact rfl
  |exact of_decide_eq_true rfl
  |exact .k [] [3] _ R R
  |skip
 rename_i h0 h1;refine .mk [] [3] _ R R R R R ?_ rfl;show[some (Blk.arr (.int .i64) (Qax N))]=[some (Blk.arr (.int .i64) (pwN N a k))]
 simp only[pwN,if_neg h0,if_neg h1];rfl
def Qq0(N:List Int):Int:=lor .i64 (land .i64 (N.getD 1 0%256) (N.getD 2 0%256)) (Q3 .i64 (N.getD 0 0%256) (N.getD 2 0%256))
def QfD(N:List Int)(a:Int):Int:=QbU [Qq0 N,N.getD 2 0%256] a
def QAg:PSpec:=⟨[gD,gi],fun(d,a,_)=>(none,.tup [.agg [.own 0,.imm (.slice none 0 0)],I1 (QfD d.1 a)],[.arr (.int .i64) (Qax d.1)])⟩
theorem QxD:G0 174 QAg.spec:=by
 have hP:S0 _:=Qa QgY (Qb (T:=tree));have hT:=tabs hP Qc;refine QAg.gd hT hP Tryz.func174 fun(d:Dv) (a:Int) _=>?_
 obtain⟨N,M⟩:=d
 repeat' first|(apply Ea;conv=>whnf)|apply Eb|apply Ec<;>intro _|apply Ed<;>intro _|apply Ee<;>intro _|apply Ef hT hP|apply Eg hT hP
 all_goals(try subst_vars)
 all_goals first
  |exact of_decide_eq_true rfl
  |exact .k [] [2] _ R R
  |skip
 rename_i h0 h1
 have e:QfD N a=0:=QhF fun i hi=>by
  have:i<2:=hi;omega
 refine .k [] [2] _ rfl ?_;show AV.tup [.agg [.own 0,.imm (.slice none 0 0)],I1 0]=AV.tup [.agg [.own 0,.imm (.slice none 0 0)],I1 (QfD N a)];rw[e]
theorem QAh(N:List Int)(k:Nat)(hk:k≤62):0≤land .i64 (shr .i64 (N.getD 2 0%256) k) 1∧land .i64 (shr .i64 (N.getD 2 0%256) k) 1<3:=by
 obtain⟨m,hm⟩:=Int.eq_ofNat_of_zero_le (show 0≤N.getD 2 0%256 by omega);rw[hm,Qtu (by omega) hk];omega
def Qo5:PSpec:=⟨[gC,gD,gi],fun(c,d,a,_)=>(some (c.2.1=4),.tup [.agg [.own 0,.imm (.slice none 0 0)],I1 (QfD d.1 a)],[.arr (.int .i64) (Qax d.1)])⟩
theorem Qq1:G0 76 Qo5.spec:=by
 have hP:S0 _:=Qa Qc7 (Qa Qgg (Qb (T:=tree)));have hT:=tabs hP Qc;refine Qo5.gd hT hP Tryz.func76 fun(c:Cv) (d:Dv) (a:Int) hp=>?_
 obtain⟨cn,ck,cb,cs,cd⟩:=c;obtain rfl:ck=4:=hp _ rfl;obtain⟨N,M⟩:=d
 repeat' first|(apply Ea;conv=>whnf)|apply Eb|apply Ec<;>intro _|apply Ed<;>intro _|apply Ee<;>intro _|apply Ef hT hP|apply Eg hT hP
 ·exact rfl
 have hN:∀j:Nat,0≤N.getD j 0%256∧N.getD j 0%256<256:=fun j=>by omega
 refine Qai hT hP (X:=Int×Int) (fun(i,o)=>St.mk (E3 ((.cell (.ptr 0 0))::(.cell (.ptr 1 0))::(.cell (.ptr 2 0))::(.cell (.ptr 3 0))::E1 ((.cell (.own 4))::(.cell (.fn 142 [2]))::E3 ((I o)::E40 (E40 (E3 (E1 ((I i)::E40 (E40 (E40 (E40 (E10 (E5 (E3 (E1 [])))))))))))))))
  [some (.var [.imm (.string cn),iv .i64 4,iv .i64 cb,iv .i64 cs,.ro (.int .u8) cd]),some (.var [.own 4,.imm (.slice none 0 0)]),some (.var [iv .i64 a]),some (.var [.imm (.slice none 0 0),.imm (.slice none 0 0)]),some (.arr (.int .i64) (Qax N))])
  (fun(i,o)=>∃k:Nat,i=k∧k≤8∧o=QlW (Qax N) (N.getD 2 0%256) k) (fun(i,_)=>(8-i).toNat) (0,0) (Le.k [] [0,1,2,3,4] ?_) ?_ fun(i,o) hi=>?_
 rotate_right
 repeat' first|(apply Ea;conv=>whnf)|apply Eb|apply Ec<;>intro _|apply Ed<;>intro _|apply Ee<;>intro _|apply Ef hT hP|apply Eg hT hP
 rotate_right 2
 ·repeat' constructor
 ·exact⟨0,rfl,by omega,rfl⟩
 all_goals first
  |exact of_decide_eq_true rfl
  |(obtain⟨k,rfl,hk,rfl⟩:=hi;omega)
  |(obtain⟨k,rfl,hk,rfl⟩:=hi
    have e:=QAh N k (by omega)
    exact⟨e.1,e.2⟩)
  |(obtain⟨k,rfl,hk,rfl⟩:=hi
    have e:=QAh N k (by omega)
    exact(by omega:(land .i64 (shr .i64 (N.getD 2 0%256) k) 1).toNat<3))
  |skip
 ·obtain⟨k,rfl,hk,rfl⟩:=hi;have e:i64.wrap ((k:Int)+1)=((k+1:Nat):Int):=by rw[w64 (by omega) (by omega)];omega
  apply Exists.intro (_,_);refine And.intro ?_ (And.intro ?_ (Le.k [] [0,1,2,3,4] ?hh))
  case hh=>repeat' constructor
  ·exact⟨k+1,e,by omega,rfl⟩
  ·show(8-i64.wrap ((k:Int)+1)).toNat<(8-(k:Int)).toNat;rw[e];omega
 ·obtain⟨k,rfl,hk,rfl⟩:=hi;refine .k [] [4] _ rfl ?_;show AV.tup [.agg [.own 0,.imm (.slice none 0 0)],I1 (QbU [QlW (Qax N) (N.getD 2 0%256) k,N.getD 2 0%256] a)]=AV.tup [.agg [.own 0,.imm (.slice none 0 0)],I1 (QbU [Qq0 N,N.getD 2 0%256] a)];have e:k=8:=by omega
  subst e;have e2:QlW (Qax N) (N.getD 2 0%256) 8=Qq0 N:=QB6 _ _ _ (hN 0) (hN 1) (hN 2);rw[e2]
def Qbf(N:List Int):List Int:=[N.getD 0 0%65536,N.getD 1 0%65536,N.getD 2 0%8,N.getD 3 0%2]
def QaE:List Int→List Int
 | [a,b,c,f]=>if c%2=0 then [a,b,c,f] else if a>0 then [a-1,b,c,f] else if c/2%2=1 then [b,b,c,1] else [a,b,c-1,1]
 |l=>l
def QaX:Nat→List Int→List Int
 |0,l=>l
 |n+1,l=>QaX n (QaE l)
theorem QhU:∀(m n:Nat) (l:List Int),QaX (m+n) l=QaX n (QaX m l)
 |0,n,l=>by rw[Nat.zero_add];rfl
 |m+1,n,l=>by
  have e:m+1+n=(m+n)+1:=by omega
  rw[e];exact QhU m n (QaE l)
theorem QtB{a b c f:Int}(h:c%2=0):∀n,QaX n [a,b,c,f]=[a,b,c,f]
 |0=>rfl
 |n+1=>by
  rw[QaX,QaE,if_pos h];exact QtB h n
theorem Qo6{b c f:Int}(h:¬c%2=0):∀(n:Nat) (a:Int),(n:Int)≤a→QaX n [a,b,c,f]=[a-n,b,c,f]
 |0,a,_=>by rw[QaX];simp
 |n+1,a,ha=>by
  rw[QaX,QaE,if_neg h,if_pos (by omega),Qo6 h n (a-1) (by omega)];have:a-1-(n:Int)=a-((n+1:Nat):Int):=by omega
  rw[this]
theorem Qnp{b c f a:Int}(h:¬c%2=0)(ha:0≤a)(n:Nat)(hn:a<n):QaX n [a,b,c,f]=QaX (n-a.toNat-1) (QaE [0,b,c,f]):=by
 have e:n=a.toNat+((n-a.toNat-1)+1):=by omega
 rw[e,QhU,Qo6 h a.toNat a (by omega)];have e2:a-(a.toNat:Int)=0:=by omega
 have e3:a.toNat+(n-a.toNat-1+1)-a.toNat-1=n-a.toNat-1:=by omega
 rw[e2,e3];rfl
theorem QEO{b c:Int}(h:¬c%2=0)(h2:c/2%2=1)(hb:0≤b):∀(m n:Nat),n≤m→QaX n [b,b,c,1]=[b-(n:Int)%(b+1),b,c,1]:=by
 intro m
 induction m with
 |zero =>
  intro n hn;have:n=0:=by omega
  subst this;rw[QaX];simp
 |succ m ih =>
  intro n hn;by_cases hle:(n:Int)≤b
  ·rw[Qo6 h n b hle,Int.emod_eq_of_lt (by omega) (by omega)]
  ·rw[Qnp h hb n (by omega),QaE,if_neg h,if_neg (by omega),if_pos h2,ih _ (by omega)];have e:((n-b.toNat-1:Nat):Int)=(n:Int)-(b+1):=by omega
   rw[e,Int.sub_emod_right]
theorem QxE{a b c f:Int}(h:¬c%2=0)(h2:c/2%2=1)(ha:0≤a)(hb:0≤b)(n:Nat)(hn:a<n):QaX n [a,b,c,f]=[b-((n:Int)-a-1)%(b+1),b,c,1]:=by
 rw[Qnp h ha n hn,QaE,if_neg h,if_neg (by omega),if_pos h2,QEO h h2 hb _ _ (Nat.le_refl _)];have e:((n-a.toNat-1:Nat):Int)=(n:Int)-a-1:=by omega
 rw[e]
theorem QB9{a b c f:Int}(h:¬c%2=0)(h2:¬c/2%2=1)(ha:0≤a)(n:Nat)(hn:a<n):QaX n [a,b,c,f]=[0,b,c-1,1]:=by
 rw[Qnp h ha n hn,QaE,if_neg h,if_neg (by omega),if_neg h2];exact QtB (by omega) _
theorem ctl{c:Int}(h0:0≤c)(h1:c<8):((land .i64 c 1==0)=decide (c%2=0))∧((land .i64 c 2 != 0)=decide (c/2%2=1))∧((land .i64 c 4 != 0)=decide (c≥4))∧(¬c%2=0→Q3 .i64 c 1=c-1):=by
 have:c=0∨c=1∨c=2∨c=3∨c=4∨c=5∨c=6∨c=7:=by omega
 rcases this with rfl|rfl|rfl|rfl|rfl|rfl|rfl|rfl<;>decide +kernel
theorem Qd2{a b c f:Int}(ha:0≤a∧a<65536)(hb:0≤b∧b<65536)(hc:0≤c∧c<8)(hf:0≤f∧f<2):Qbf [a,b,c,f]=[a,b,c,f]:=by
 show[a%65536,b%65536,c%8,f%2]=_;rw[Int.emod_eq_of_lt ha.1 ha.2,Int.emod_eq_of_lt hb.1 hb.2,Int.emod_eq_of_lt hc.1 hc.2,Int.emod_eq_of_lt hf.1 hf.2]
theorem Qq2{a b c f:Int}(ha:0≤a∧a<65536)(hb:0≤b∧b<65536)(hc:0≤c∧c<8)(hf:0≤f∧f<2):Qbf (QaE [a,b,c,f])=QaE [a,b,c,f]:=by
 by_cases h1:c%2=0
 ·have e:QaE [a,b,c,f]=[a,b,c,f]:=if_pos h1;rw[e];exact Qd2 ha hb hc hf
 ·by_cases h2:a>0
  ·have e:QaE [a,b,c,f]=[a-1,b,c,f]:=by rw[QaE,if_neg h1,if_pos h2]
   rw[e];exact Qd2 (by omega) hb hc hf
  ·by_cases h3:c/2%2=1
   ·have e:QaE [a,b,c,f]=[b,b,c,1]:=by rw[QaE,if_neg h1,if_neg h2,if_pos h3]
    rw[e];exact Qd2 hb hb hc (by omega)
   ·have e:QaE [a,b,c,f]=[a,b,c-1,1]:=by rw[QaE,if_neg h1,if_neg h2,if_neg h3]
    rw[e];exact Qd2 ha hb (by omega) (by omega)
theorem QtC{l:List Int}(h:Qbf l=l):Qbf (QaE l)=QaE l:=by
 have:=Qq2 (a:=l.getD 0 0%65536) (b:=l.getD 1 0%65536) (c:=l.getD 2 0%8) (f:=l.getD 3 0%2) (by omega) (by omega) (by omega) (by omega);have e:[l.getD 0 0%65536,l.getD 1 0%65536,l.getD 2 0%8,l.getD 3 0%2]=l:=h;rw[e] at this;exact this
theorem QfE(N:List Int):Qbf (Qbf N)=Qbf N:=Qd2 (by omega) (by omega) (by omega) (by omega)
theorem Qbg{l l':List Int}(h:l=l'):[some (Blk.arr (.int .i64) l)]=[some (Blk.arr (.int .i64) l')]:=by rw[h]
abbrev tA(N:List Int):Int:=N.getD 0 0%65536
abbrev tB(N:List Int):Int:=N.getD 1 0%65536
abbrev tC(N:List Int):Int:=N.getD 2 0%8
abbrev tF(N:List Int):Int:=N.getD 3 0%2
theorem tR(N:List Int):(0≤tA N∧tA N<65536)∧(0≤tB N∧tB N<65536)∧(0≤tC N∧tC N<8)∧(0≤tF N∧tF N<2):=by
 unfold tA tB tC tF;omega
theorem Qb0(N:List Int):Qbf N=[tA N,tB N,tC N,tF N]:=rfl
def Qo7:PSpec:=⟨[gC,gD],fun(c,d,_)=>(some (c.2.1=3),Qfb,[.arr (.int .i64) (Qbf d.1)])⟩
theorem Qce:G0 58 Qo7.spec:=by
 have hP:S0 _:=Qa QcO (Qb (T:=tree));have hT:=tabs hP Qc;refine Qo7.gd hT hP Tryz.func58 fun(c:Cv) (d:Dv) hp=>?_
 obtain⟨cn,ck,cb,cs,cd⟩:=c;obtain rfl:ck=3:=hp _ rfl;obtain⟨N,M⟩:=d
 repeat' first|(apply Ea;conv=>whnf)|apply Eb|apply Ec<;>intro _|apply Ed<;>intro _|apply Ee<;>intro _|apply Ef hT hP
 ·exact(by decide:([65536,65536,8,2]:List Int).length≤1000∧∀m∈([65536,65536,8,2]:List Int),0<m∧m≤4611686018427387904)
 ·exact .k [] [5] _ R R
def QEP:PSpec:=⟨[gD],fun(d,_)=>(none,.cell (.own 0),[.arr (.int .i64) (Qbf d.1)])⟩
theorem QhV:G0 202 QEP.spec:=by
 have hP:S0 _:=Qa QN (Qb (T:=tree));have hT:=tabs hP Qc;refine QEP.gd hT hP Tryz.func202 fun(d:Dv) _=>?_
 obtain⟨N,M⟩:=d
 repeat' first|(apply Ea;conv=>whnf)|apply Eb|apply Ec<;>intro _|apply Ed<;>intro _|apply Ee<;>intro _|apply Ef hT hP
 all_goals first
  |exact of_decide_eq_true rfl
  |exact .k [] [1] _ R R
def QEQ:PSpec:=⟨[],fun _=>(none,Qfb,[.arr (.int .i64) [0,0,0,0]])⟩
theorem QCa:G0 110 QEQ.spec:=by
 have hP:S0 _:=(Qb (T:=tree))
 have hT:=tabs hP Qc;refine QEQ.gd hT hP Tryz.func110 fun _=>?_
 repeat' first|(apply Ea;conv=>whnf)|apply Eb|apply Ec<;>intro _|apply Ed<;>intro _|apply Ee<;>intro _|apply Ef hT hP
 all_goals first
  |exact of_decide_eq_true rfl
  |exact .k [] [1] _ R R
def QtD:PSpec:=⟨[gC,gD],fun(c,d,_)=>(some (c.2.1=3),Qfb,[.arr (.int .i64) (QaE (Qbf d.1))])⟩
theorem QtE:G0 79 QtD.spec:=by
 have hP:S0 _:=Qa Qce (Qb (T:=tree));have hT:=tabs hP Qc;refine QtD.gd hT hP Tryz.func79 fun(c:Cv) (d:Dv) hp=>?_
 obtain⟨cn,ck,cb,cs,cd⟩:=c;obtain rfl:ck=3:=hp _ rfl;obtain⟨N,M⟩:=d;obtain⟨rA,rB,rC,rF⟩:=tR N
 repeat' first|(apply Ea;conv=>whnf)|apply Eb|apply Ec<;>intro _|apply Ed<;>intro _|apply Ee<;>intro _|apply Ef hT hP
 all_goals first
  |exact rfl
  |exact of_decide_eq_true rfl
  |skip
 ·rename_i h;have h:Int.tmod (tC N) 2=0:=h;refine .mk [] [3] _ R R R R R (Qbg (l:=Qbf N) ?_) rfl;rw[Qb0,QaE,if_pos];rw[Int.tmod_eq_emod_of_nonneg (by omega)] at h;exact h
 ·rename_i h h1;have h:¬Int.tmod (tC N) 2=0:=h;have h1:tA N>0:=h1;rw[Int.tmod_eq_emod_of_nonneg (by omega)] at h;refine .mk [] [3] _ R R R R R (Qbg (l:=[i64.wrap (tA N-1),tB N,tC N,tF N]) ?_) rfl;show _=QaE (Qbf N);rw[Qb0,QaE,if_neg h,if_pos h1,w64 (by omega) (by omega)]
 ·rename_i h h1 h2;have h:¬Int.tmod (tC N) 2=0:=h;have h1:¬tA N>0:=h1;have h2:Int.tmod (i64.wrap (Int.tdiv (tC N) 2)) 2=1:=h2;rw[Int.tmod_eq_emod_of_nonneg (by omega)] at h;rw[Int.tdiv_eq_ediv_of_nonneg (by omega),w64 (by omega) (by omega),Int.tmod_eq_emod_of_nonneg (by omega)] at h2;refine .mk [] [3] _ R R R R R (Qbg (l:=[tB N,tB N,tC N,1]) ?_) rfl;show _=QaE (Qbf N);rw[Qb0,QaE,if_neg h,if_neg h1,if_pos h2]
 ·rename_i h h1 h2;have h:¬Int.tmod (tC N) 2=0:=h;have h1:¬tA N>0:=h1;have h2:¬Int.tmod (i64.wrap (Int.tdiv (tC N) 2)) 2=1:=h2;rw[Int.tmod_eq_emod_of_nonneg (by omega)] at h;rw[Int.tdiv_eq_ediv_of_nonneg (by omega),w64 (by omega) (by omega),Int.tmod_eq_emod_of_nonneg (by omega)] at h2;refine .mk [] [3] _ R R R R R (Qbg (l:=[tA N,tB N,i64.wrap (tC N-1),1]) ?_) rfl;show _=QaE (Qbf N);rw[Qb0,QaE,if_neg h,if_neg h1,if_neg h2,w64 (x:=tC N-1) (by omega) (by omega)]
def QAi:PSpec:=⟨[gD,gi],fun(d,k,_)=>(some (k≤4611686018427387904),Qfb,[.arr (.int .i64) (QaX k.toNat (Qbf d.1))])⟩
theorem QxF:G0 156 QAi.spec:=by
 have hP:S0 _:=Qa QhV (Qb (T:=tree));have hT:=tabs hP Qc;refine QAi.gd hT hP Tryz.func156 fun(d:Dv) (k:Int) hp=>?_
 have hp:k≤4611686018427387904:=hp _ rfl;obtain⟨N,M⟩:=d;obtain⟨rA,rB,rC,rF⟩:=tR N
 repeat' first|(apply Ea;conv=>whnf)|apply Eb|apply Ec<;>intro _|apply Ed<;>intro _|apply Ee<;>intro _|apply Ef hT hP
 all_goals first
  |exact rfl
  |exact of_decide_eq_true rfl
  |skip
 all_goals obtain⟨c1,c2,c4,c3⟩:=ctl (c:=tC N) (by omega) (by omega)
 ·rename_i h;refine .mk [] [2] _ R R R R R (Qbg (l:=Qbf N) ?_) rfl;show _=QaX k.toNat (Qbf N);have:k.toNat=0:=by omega
  rw[this];rfl
 ·rename_i h0 h;have h:land .i64 (tC N) 1=0:=h;refine .mk [] [2] _ R R R R R (Qbg (l:=Qbf N) ?_) rfl;show _=QaX k.toNat (Qbf N);rw[h] at c1;rw[Qb0,QtB (of_decide_eq_true c1.symm)]
 ·rename_i h0 h h1;have h:¬land .i64 (tC N) 1=0:=h;have h1:k≤tA N:=h1
  have hc:¬tC N%2=0:=by
   intro e;rw[decide_eq_true e] at c1;exact h (by simpa using c1)
  refine .mk [] [2] _ R R R R R (Qbg (l:=[i64.wrap (tA N-k),tB N,tC N,tF N]) ?_) rfl;show _=QaX k.toNat (Qbf N);rw[Qb0,Qo6 hc _ _ (by omega),w64 (by omega) (by omega)];have:((k.toNat:Nat):Int)=k:=by omega
  rw[this]
 ·show i64.wrap (tB N+1)≠0;rw[w64 (by omega) (by omega)];omega
 ·rename_i h0 h h1 h2;have h:¬land .i64 (tC N) 1=0:=h;have h1:¬k≤tA N:=h1;have h2:(land .i64 (tC N) 2 != 0)=true:=h2
  have hc:¬tC N%2=0:=by
   intro e;rw[decide_eq_true e] at c1;exact h (by simpa using c1)
  rw[h2] at c2;refine .mk [] [2] _ R R R R R (Qbg (l:=[i64.wrap (tB N-Int.tmod (i64.wrap (i64.wrap (k-tA N)-1)) (i64.wrap (tB N+1))),tB N,tC N,1]) ?_) rfl;show _=QaX k.toNat (Qbf N);rw[Qb0,QxE hc (of_decide_eq_true c2.symm) (by omega) (by omega) _ (by omega)];have e:((k.toNat:Nat):Int)=k:=by omega
  rw[e,w64 (x:=k-tA N) (by omega) (by omega),w64 (x:=k-tA N-1) (by omega) (by omega),w64 (x:=tB N+1) (by omega) (by omega),Int.tmod_eq_emod_of_nonneg (by omega)];have h5:=Int.emod_nonneg (k-tA N-1) (show tB N+1≠0 by omega);have h6:=Int.emod_lt_of_pos (k-tA N-1) (show 0<tB N+1 by omega);rw[w64 (by omega) (by omega)]
 ·rename_i h0 h h1 h2;have h:¬land .i64 (tC N) 1=0:=h;have h1:¬k≤tA N:=h1;have h2:(land .i64 (tC N) 2 != 0)=false:=h2
  have hc:¬tC N%2=0:=by
   intro e;rw[decide_eq_true e] at c1;exact h (by simpa using c1)
  rw[h2] at c2;refine .mk [] [2] _ R R R R R (Qbg (l:=[0,tB N,Q3 .i64 (tC N) 1,1]) ?_) rfl;show _=QaX k.toNat (Qbf N);rw[Qb0,QB9 hc (of_decide_eq_false c2.symm) (by omega) _ (by omega),c3 hc]
theorem QlX{f z:Nat}(h:f+z≤62):Qc3 (f:Int) (z:Int)=((f:Int),(z:Int)):=by
 simp only[Qc3,QaD,QT,QU];have e1:max 0 (min (f:Int) 62)=f:=by omega
 rw[e1,w64 (x:=62-(f:Int)) (by omega) (by omega)];have e2:max 0 (min (z:Int) (62-f))=z:=by omega
 rw[e2]
theorem QCb(v:Int){k:Nat}(h:k≤62):((u64 v%2 ^ k:Nat):Int)=v%2 ^ k:=by
 have:=Qj1 v k (by omega) (by omega);rw[Qge,Qfv (by omega) (by omega)] at this;exact this
theorem QtF{N V f z:Nat}(hN:N<2 ^ 62)(hV:V<2 ^ z)(h:f+z≤62) :
 (N ^^^ (N &&& (2 ^ z-1)*2 ^ f)) ||| V*2 ^ f=2 ^ f*(2 ^ z*(N/2 ^ (f+z))+V)+N%2 ^ f:=by
 apply Nat.eq_of_testBit_eq;intro i;rw[Nat.testBit_two_pow_mul_add _ (Nat.mod_lt _ (Nat.pow_pos (by omega))),Nat.testBit_or,QdZ,Nat.testBit_mul_two_pow,Nat.testBit_mul_two_pow,Nat.testBit_two_pow_sub_one];by_cases h1:i<f
 ·rw[if_pos h1,Nat.testBit_mod_two_pow];have e:decide (f≤i)=false:=by simp;omega
  simp[e,h1]
 ·rw[if_neg h1,Nat.testBit_two_pow_mul_add _ hV];have e:decide (f≤i)=true:=by simp;omega
  by_cases h2:i-f<z
  ·simp[e,h2]
  ·rw[if_neg h2,Nat.testBit_div_two_pow];have e3:V.testBit (i-f)=false:=Nat.testBit_lt_two_pow (Nat.lt_of_lt_of_le hV (QlA (by omega)));have e4:i-f-z+(f+z)=i:=by omega
   have e5:f+z+(i-f-z)=i:=by omega
   simp[e,h2,e3,e4,e5]
theorem QxG{n f z:Nat}(hn:n<2 ^ 62)(h:f+z≤62):QIP (n:Int) (f:Int) (z:Int)=((n/2 ^ f%2 ^ z:Nat):Int):=by
 have hl:QmN (n:Int) 62=((u64 (n:Int)%2 ^ 62:Nat):Int):=Qge n 62;rw[Qas (by omega),Nat.mod_eq_of_lt hn] at hl;unfold QIP;rw[QlX h,hl];simp only;rw[QzZ (by omega),Qge,Qfv (by omega) (by omega),Qas (Nat.lt_of_le_of_lt (Nat.div_le_self _ _) (by omega))];simp
theorem QxH{n f z:Nat}(v:Int)(hn:n<2 ^ 62)(h:f+z≤62):QIQ (n:Int) (f:Int) (z:Int) v=((2 ^ f*(2 ^ z*(n/2 ^ (f+z))+u64 v%2 ^ z)+n%2 ^ f:Nat):Int):=by
 have hz:2 ^ f*2 ^ z≤2 ^ 62:=by rw[←Nat.pow_add];exact QlA h
 have hz0:0<2 ^ z:=Nat.pow_pos (by omega);have hf0:0<2 ^ f:=Nat.pow_pos (by omega);have hV:u64 v%2 ^ z<2 ^ z:=Nat.mod_lt _ hz0;have hl:QmN (n:Int) 62=((u64 (n:Int)%2 ^ 62:Nat):Int):=Qge n 62;rw[Qas (by omega),Nat.mod_eq_of_lt hn] at hl;have hv:QmN v z=((u64 v%2 ^ z:Nat):Int):=by rw[Qge,Qfv (by omega) (by omega)];simp
 have b1:(2 ^ z-1)*2 ^ f<2 ^ 63:=by
  have:(2 ^ z-1)*2 ^ f≤2 ^ z*2 ^ f:=Nat.mul_le_mul_right _ (by omega);rw[Nat.mul_comm (2 ^ z)] at this;omega
 have b2:u64 v%2 ^ z*2 ^ f<2 ^ 63:=by
  have:u64 v%2 ^ z*2 ^ f≤2 ^ z*2 ^ f:=Nat.mul_le_mul_right _ (by omega);rw[Nat.mul_comm (2 ^ z)] at this;omega
 have key:=QtF hn hV h
 have b3:2 ^ f*(2 ^ z*(n/2 ^ (f+z))+u64 v%2 ^ z)+n%2 ^ f<2 ^ 62:=by
  rw[←key];refine Nat.or_lt_two_pow (Nat.xor_lt_two_pow hn (Nat.lt_of_le_of_lt Nat.and_le_left hn)) ?_;have:u64 v%2 ^ z*2 ^ f<2 ^ z*2 ^ f:=Nat.mul_lt_mul_of_pos_right hV hf0;rw[Nat.mul_comm (2 ^ z)] at this;omega
 rw[←key];unfold QIQ;rw[QlX h];simp only;rw[hl,hv,QsS (by omega),QsT b1 (by omega),QsT b2 (by omega)];have u1:u64 (n:Int)=n:=Qas (by omega);have u2:u64 (((2 ^ z-1)*2 ^ f:Nat):Int)=(2 ^ z-1)*2 ^ f:=Qas (by omega);have u3:u64 ((u64 v%2 ^ z*2 ^ f:Nat):Int)=u64 v%2 ^ z*2 ^ f:=Qas (by omega);rw[Qds _ _ (by rw[u1];omega),u1,u2]
 have u4:u64 ((n ^^^ n &&& (2 ^ z-1)*2 ^ f:Nat):Int)=n ^^^ (n &&& (2 ^ z-1)*2 ^ f):=Qas (by
  have:n ^^^ (n &&& (2 ^ z-1)*2 ^ f)<2 ^ 62:=Nat.xor_lt_two_pow hn (Nat.lt_of_le_of_lt Nat.and_le_left hn)
  omega)
 rw[Qgd _ _ (by rw[u3,u4,key];omega),u3,u4]
def QJI:PSpec:=⟨[gi,gi,gi],fun(n,a,s,_)=>(some (0≤n∧n<4611686018427387904∧0≤a∧0≤s∧a+s≤62),I (n/2 ^ a.toNat%2 ^ s.toNat),[])⟩
theorem QhW:G0 233 QJI.spec:=by
 have hP:S0 _:=Qa QoI (Qa QzX (Qb (T:=tree)));have hT:=tabs hP Qc;refine QJI.gd hT hP Tryz.func233 fun(n a s:Int) hp=>?_
 obtain⟨h1,h2,h3,h4,h5⟩:0≤n∧n<4611686018427387904∧0≤a∧0≤s∧a+s≤62:=hp _ rfl
 repeat' first|(apply Ea;conv=>whnf)|apply Eb|apply Ec<;>intro _|apply Ed<;>intro _|apply Ee<;>intro _|apply Ef hT hP
 ·exact(Qft a s).1
 ·refine .k [] [] _ rfl (Qd ?_);show QIP n a s=_;obtain⟨n,rfl⟩:=Int.eq_ofNat_of_zero_le h1;obtain⟨a,rfl⟩:=Int.eq_ofNat_of_zero_le h3;obtain⟨s,rfl⟩:=Int.eq_ofNat_of_zero_le h4;rw[QxG (by omega) (by omega)];simp
def QJJ:PSpec:=⟨[gi,gi,gi,gi],fun(n,a,s,v,_)=>(some (0≤n∧n<4611686018427387904∧0≤a∧0≤s∧a+s≤62),I (2 ^ a.toNat*(2 ^ s.toNat*(n/2 ^ (a+s).toNat)+v%2 ^ s.toNat)+n%2 ^ a.toNat),[])⟩
theorem QhX:G0 237 QJJ.spec:=by
 have hP:S0 _:=Qa QoI (Qa QzX (Qb (T:=tree)));have hT:=tabs hP Qc;refine QJJ.gd hT hP Tryz.func237 fun(n a s v:Int) hp=>?_
 obtain⟨h1,h2,h3,h4,h5⟩:0≤n∧n<4611686018427387904∧0≤a∧0≤s∧a+s≤62:=hp _ rfl
 repeat' first|(apply Ea;conv=>whnf)|apply Eb|apply Ec<;>intro _|apply Ed<;>intro _|apply Ee<;>intro _|apply Ef hT hP
 ·exact(Qft a s).2
 ·exact(Qft a s).1
 ·exact(Qft a s).1
 ·refine .k [] [] _ rfl (Qd ?_);show QIQ n a s v=_;obtain⟨n,rfl⟩:=Int.eq_ofNat_of_zero_le h1;obtain⟨a,rfl⟩:=Int.eq_ofNat_of_zero_le h3;obtain⟨s,rfl⟩:=Int.eq_ofNat_of_zero_le h4;have e:((a:Int)+(s:Int)).toNat=a+s:=by omega
  rw[QxH v (by omega) (by omega),e,←QCb v (by omega)];simp
theorem QCc(n i:Nat):n &&& 2 ^ i=n/2 ^ i%2*2 ^ i:=by
 apply Nat.eq_of_testBit_eq;intro j;rw[Nat.testBit_and,Nat.testBit_two_pow];have hb:n.testBit i=decide (n/2 ^ i%2=1):=Nat.testBit_eq_decide_div_mod_eq;rcases Nat.mod_two_eq_zero_or_one (n/2 ^ i) with h|h
 ·rw[h] at hb ⊢;rw[Nat.zero_mul,Nat.zero_testBit];by_cases e:i=j
  ·subst e;rw[hb];simp
  ·simp[e]
 ·rw[h] at hb ⊢;rw[Nat.one_mul,Nat.testBit_two_pow];by_cases e:i=j
  ·subst e;rw[hb];simp
  ·simp[e]
theorem Qo8(k:Int):land .i64 k 128=k/128%2*128:=by
 have e:u64 128=2 ^ 7:=by decide
 have h:=QCc (u64 k) 7;have hb:u64 k/2 ^ 7%2≤1:=by omega
 rw[Qfu _ _ (by rw[e,h];omega),e,h];unfold u64;omega
def twN(N:List Int)(a k:Int):List Int :=
 [if a=2∧k/128%2=1 then tB N else tA N,if a=0 then tB N/256*256+k%256 else if a=1 then tB N%256+256*(k%256) else tB N,if a=2 then k%8 else tC N,tF N]
def QtG:PSpec:=⟨[gD,gi,gi],fun(d,a,k,_)=>(none,Qfb,[.arr (.int .i64) (twN d.1 a k)])⟩
theorem QtH:G0 180 QtG.spec:=by
 have hP:S0 _:=Qa QhV (Qa QN (Qa QhX (Qb (T:=tree))));have hT:=tabs hP Qc;refine QtG.gd hT hP Tryz.func180 fun(d:Dv) (a k:Int) _=>?_
 obtain⟨N,M⟩:=d;obtain⟨rA,rB,rC,rF⟩:=tR N
 repeat' first|(apply Ea;conv=>whnf)|apply Eb|apply Ec<;>intro _|apply Ed<;>intro _|apply Ee<;>intro _|apply Ef hT hP
 all_goals(try subst_vars)
 all_goals first
  |exact rfl
  |exact of_decide_eq_true rfl
  |(refine⟨?_,?_,by decide,by decide,by decide⟩
    ·exact rB.1
    ·exact(by omega:tB N<4611686018427387904))
  |skip
 ·refine .mk [] [2] _ R R R R R (Qbg (l:=[tA N,2 ^ (0:Int).toNat*(2 ^ (8:Int).toNat*(tB N/2 ^ (0+8:Int).toNat)+k%2 ^ (8:Int).toNat)+tB N%2 ^ (0:Int).toNat,tC N,tF N]) ?_) rfl;show _=twN N 0 k
  have e:(2 ^ (0:Int).toNat*(2 ^ (8:Int).toNat*(tB N/2 ^ (0+8:Int).toNat)+k%2 ^ (8:Int).toNat)+tB N%2 ^ (0:Int).toNat)=tB N/256*256+k%256:=by
   show(1:Int)*(256*(tB N/256)+k%256)+tB N%1=_;omega
  rw[e];rfl
 ·refine .mk [] [2] _ R R R R R (Qbg (l:=[tA N,2 ^ (8:Int).toNat*(2 ^ (8:Int).toNat*(tB N/2 ^ (8+8:Int).toNat)+k%2 ^ (8:Int).toNat)+tB N%2 ^ (8:Int).toNat,tC N,tF N]) ?_) rfl;show _=twN N 1 k
  have e:(2 ^ (8:Int).toNat*(2 ^ (8:Int).toNat*(tB N/2 ^ (8+8:Int).toNat)+k%2 ^ (8:Int).toNat)+tB N%2 ^ (8:Int).toNat)=tB N%256+256*(k%256):=by
   show(256:Int)*(256*(tB N/65536)+k%256)+tB N%256=_;omega
  rw[e];rfl
 ·rename_i h _ _ _;have h:(land .i64 k 128 != 0)=true:=h;refine .mk [] [2] _ R R R R R (Qbg (l:=[tB N,tB N,k%2 ^ (3:Int).toNat,tF N]) ?_) rfl;show _=twN N 2 k;have h:k/128%2=1:=by rw[Qo8] at h;simp at h;omega
  rw[twN,if_pos ⟨rfl,h⟩];rfl
 ·rename_i h _ _ _;have h:(land .i64 k 128 != 0)=false:=h;refine .mk [] [2] _ R R R R R (Qbg (l:=[tA N,tB N,k%2 ^ (3:Int).toNat,tF N]) ?_) rfl;show _=twN N 2 k;have h:¬k/128%2=1:=by rw[Qo8] at h;simp at h;omega
  rw[twN,if_neg (fun e=>h e.2)];rfl
 ·rename_i h0 h1 h2;refine .mk [] [2] _ R R R R R (Qbg (l:=Qbf N) ?_) rfl;show _=twN N a k;simp only[twN,Qb0,if_neg h0,if_neg h1,if_neg h2];rw[if_neg (fun e=>h2 e.1)]
def Qo9:PSpec:=⟨[gC,gD,gi,gi],fun(c,d,a,k,_)=>(some (c.2.1=3),Qfb,[.arr (.int .i64) (twN d.1 a k)])⟩
theorem Qq3:G0 77 Qo9.spec:=by
 have hP:S0 _:=Qa Qce (Qa Qco (Qb (T:=tree)));have hT:=tabs hP Qc;refine Qo9.gd hT hP Tryz.func77 fun(c:Cv) (d:Dv) (a k:Int) hp=>?_
 obtain⟨cn,ck,cb,cs,cd⟩:=c;obtain rfl:ck=3:=hp _ rfl;obtain⟨N,M⟩:=d;obtain⟨rA,rB,rC,rF⟩:=tR N
 repeat' first|(apply Ea;conv=>whnf)|apply Eb|apply Ec<;>intro _|apply Ed<;>intro _|apply Ee<;>intro _|apply Ef hT hP
 all_goals(try subst_vars)
 all_goals first
  |exact rfl
  |exact of_decide_eq_true rfl
  |skip
 ·refine .mk [] [3] _ R R R R R (Qbg (l:=[tA N,i64.wrap (i64.wrap (i64.wrap (Int.tdiv (tB N) 256)*256)+k%256),tC N,tF N]) ?_) rfl;show _=twN N 0 k;rw[Int.tdiv_eq_ediv_of_nonneg (by omega),w64 (x:=tB N/256) (by omega) (by omega),w64 (x:=tB N/256*256) (by omega) (by omega),w64 (by omega) (by omega)];rfl
 ·refine .mk [] [3] _ R R R R R (Qbg (l:=[tA N,i64.wrap (Int.tmod (tB N) 256+i64.wrap (256*(k%256))),tC N,tF N]) ?_) rfl;show _=twN N 1 k;rw[Int.tmod_eq_emod_of_nonneg (by omega),w64 (x:=256*(k%256)) (by omega) (by omega),w64 (by omega) (by omega)];rfl
 ·rename_i h _ _;have h:i64.wrap (Int.tdiv (k%256) 128)=1:=h;refine .mk [] [3] _ R R R R R (Qbg (l:=[tB N,tB N,Int.tmod (k%256) 8,tF N]) ?_) rfl;show _=twN N 2 k;have h:k/128%2=1:=by rw[Int.tdiv_eq_ediv_of_nonneg (by omega),w64 (by omega) (by omega)] at h;omega
  have e:Int.tmod (k%256) 8=k%8:=by rw[Int.tmod_eq_emod_of_nonneg (by omega)];omega
  rw[twN,if_pos ⟨rfl,h⟩,e];rfl
 ·rename_i h _ _;have h:¬i64.wrap (Int.tdiv (k%256) 128)=1:=h;refine .mk [] [3] _ R R R R R (Qbg (l:=[tA N,tB N,Int.tmod (k%256) 8,tF N]) ?_) rfl;show _=twN N 2 k;have h:¬k/128%2=1:=by rw[Int.tdiv_eq_ediv_of_nonneg (by omega),w64 (by omega) (by omega)] at h;omega
  have e:Int.tmod (k%256) 8=k%8:=by rw[Int.tmod_eq_emod_of_nonneg (by omega)];omega
  rw[twN,if_neg (fun e=>h e.2),e];rfl
 ·rename_i h0 h1 h2;refine .mk [] [3] _ R R R R R (Qbg (l:=Qbf N) ?_) rfl;show _=twN N a k;simp only[twN,Qb0,if_neg h0,if_neg h1,if_neg h2];rw[if_neg (fun e=>h2 e.1)]
theorem Qgk(n:Nat)(l:List Int):QaX (n+1) l=QaE (QaX n l):=by
 rw[QhU n 1];rfl
theorem QfF(N:List Int):∀n,Qbf (QaX n (Qbf N))=QaX n (Qbf N)
 |0=>QfE N
 |n+1=>by rw[Qgk];exact QtC (QfF N n)
end Go.Proofs.YtofgbclopbmlcaaGreat

