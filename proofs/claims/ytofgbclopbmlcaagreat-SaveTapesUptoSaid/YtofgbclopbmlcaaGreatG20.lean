/- Part 20 of the proof. Conditions: none. -/
import Derived.Test.YtofgbclopbmlcaaGreatG12
import Derived.Test.YtofgbclopbmlcaaGreatG10
import Derived.Test.YtofgbclopbmlcaaGreatG16
import Derived.Test.YtofgbclopbmlcaaGreatG13


namespace Go.Proofs.YtofgbclopbmlcaaGreat
open Go.IntKind (i64)
open Go.Fw
set_option linter.unusedVariables false
set_option linter.unusedSimpArgs false
set_option maxRecDepth 100000
theorem QNL{c:Int}(w:0≤c)(u:c<4):((land .i64 c 1 != 0)=decide (c%2=1))∧((land .i64 c 2 != 0)=decide (c≥2)):=by
 have:c=0∨c=1∨c=2∨c=3:=by omega
 rcases this with rfl|rfl|rfl|rfl<;>decide +kernel
def Qpq:PSpec:=⟨[gC,gD,gi],fun(c,d,a,_)=>(some (c.2.1=5),.tup [.agg [.own 0,.imm (.slice none 0 0)],I1 (srF d.1 a)],[.arr (.int .i64) (srN d.1 a)])⟩
theorem Qrt:G0 76 Qpq.spec:=by
 have f:S0 _:=Qa QbL (Qa Qgq (Qa Qnp (Qb (T:=tree))));have j:=tabs f Qc;refine Qpq.gd j f Tryz.func76 fun(c:Cv) (d:Dv) (a:Int) p=>?_
 obtain⟨D,s,F,cs,E⟩:=c;obtain rfl:s=5:=p _ rfl;obtain⟨N,M⟩:=d;obtain⟨w,u,m,C,B,n,A,y⟩:=sR N;have hb:0≤QdS (decide (s1 N>0))∧QdS (decide (s1 N>0))≤1:=by cases decide (s1 N>0)<;>decide
 have hv:i64.wrap (i64.wrap (s3 N+i64.wrap (2*QdS (decide (s1 N>0))))+i64.wrap (4*s4 N))=s3 N+2*QdS (decide (s1 N>0))+4*s4 N:=by
  rw[w64 (x:=2*QdS (decide (s1 N>0))) (by omega) (by omega),w64 (x:=4*s4 N) (by omega) (by omega),w64 (x:=s3 N+2*QdS (decide (s1 N>0))) (by omega) (by omega),w64 (by omega) (by omega)]
 have fin:∀x,x=[s0 N,s1 N,s2 N,s3 N,s4 N,s5 N,s6 N,s7 N]→True:=fun _ _=>trivial
 repeat' first|(apply Ea;conv=>whnf)|apply Eb|apply Ec|apply Ed|apply Ee|(apply Ei;intro _)|apply Ef j f
 all_goals first
  |exact rfl
  |exact Ya rfl
  |skip
 all_goals
  refine .mk [] [4] _ R R R R R ?_ (Qcs (Yv (fun z=>Qb0 [s2 N,z,s5 N] a) hv))
 ·rename_i i b;have i:a=0:=i;have b:a=1:=b;omega
 ·rename_i i b;have i:a=0:=i;subst i;exact rfl
 ·rename_i i b;have b:a=1:=b;subst b;exact rfl
 ·rename_i i b;have i:¬a=0:=i;have b:¬a=1:=b;refine Ql (l:=Qbe N) (l':=srN N a) ?_;rw[QdA,srN,Yb i,Yb b]
def swN(N:List Int)(a k:Int):List Int :=
 [if a=0∧s1 N=0 then k%256 else s0 N,if a=0∧s1 N=0 then 40 else s1 N,s2 N,s3 N,s4 N,if a=2 then k%4 else s5 N,s6 N,s7 N]
def Qt9:PSpec:=⟨[gD,gi,gi],fun(d,a,k,_)=>(none,Qff,[.arr (.int .i64) (swN d.1 a k)])⟩
theorem QF2{N:List Int}{k:Int}(h:s1 N=0):swN N 0 k=[k%256,40,s2 N,s3 N,s4 N,s5 N,s6 N,s7 N]:=by
 rw[swN,Yf ⟨rfl,h⟩,Yf ⟨rfl,h⟩,Yb (by omega)]
theorem QF3{N:List Int}{k:Int}:swN N 2 k=[s0 N,s1 N,s2 N,s3 N,s4 N,k%4,s6 N,s7 N]:=by
 rw[swN,Yb (fun e=>by omega),Yb (fun e=>by omega),Yf rfl]
theorem Qpr{N:List Int}{a k:Int}(h:¬(a=0∧s1 N=0))(m:¬a=2):swN N a k=Qbe N:=by
 rw[swN,Yb h,Yb h,Yb m];rfl
theorem Qua:G0 182 Qt9.spec:=by
 have f:S0 _:=Qa Qe2 (Qa QU (Qb (T:=tree)));have j:=tabs f Qc;refine Qt9.gd j f Tryz.func182 fun(d:Dv) (a k:Int) _=>?_
 obtain⟨N,M⟩:=d
 repeat' first|(apply Ea;conv=>whnf)|apply Eb|apply Ec|apply Ed|apply Ee|(apply Ei;intro _)|apply Ef j f
 all_goals first
  |exact rfl
  |exact Ya rfl
  |skip
 ·rename_i i b;have b:s1 N=0:=b;subst i;refine .mk [] [2] _ R R R R R (Ql (l:=[k%2 ^ (8:Int).toNat,40,s2 N,s3 N,s4 N,s5 N,s6 N,s7 N]) (l':=swN N 0 k) ?_) rfl;rw[QF2 b];rfl
 ·rename_i i b t;omega
 ·rename_i i b t;have b:¬s1 N=0:=b;refine .mk [] [2] _ R R R R R (Ql (l:=Qbe N) (l':=swN N a k) ?_) rfl;rw[Qpr (fun e=>b e.2) t]
 ·rename_i i b;subst b;refine .mk [] [2] _ R R R R R (Ql (l:=[s0 N,s1 N,s2 N,s3 N,s4 N,k%2 ^ (2:Int).toNat,s6 N,s7 N]) (l':=swN N 2 k) ?_) rfl;rw[QF3];rfl
 ·rename_i i b;refine .mk [] [2] _ R R R R R (Ql (l:=Qbe N) (l':=swN N a k) ?_) rfl;rw[Qpr (fun e=>i e.1) b]
def Qps:PSpec:=⟨[gC,gD,gi,gi],fun(c,d,a,k,_)=>(some (c.2.1=5),Qff,[.arr (.int .i64) (swN d.1 a k)])⟩
theorem Qru:G0 77 Qps.spec:=by
 have f:S0 _:=Qa QbL (Qa QbC (Qb (T:=tree)));have j:=tabs f Qc;refine Qps.gd j f Tryz.func77 fun(c:Cv) (d:Dv) (a k:Int) p=>?_
 obtain⟨D,s,F,cs,E⟩:=c;obtain rfl:s=5:=p _ rfl;obtain⟨N,M⟩:=d
 repeat' first|(apply Ea;conv=>whnf)|apply Eb|apply Ec|apply Ed|apply Ee|(apply Ei;intro _)|apply Ef j f
 all_goals first
  |exact rfl
  |exact Ya rfl
  |skip
 ·rename_i i b t;omega
 ·rename_i i b t;have i:a=0:=i;have b:s1 N=0:=b;subst i;refine .mk [] [3] _ R R R R R (Ql (l:=[k%256,40,s2 N,s3 N,s4 N,s5 N,s6 N,s7 N]) (l':=swN N 0 k) ?_) rfl;rw[QF2 b]
 ·rename_i i b t;omega
 ·rename_i i b t;have b:¬s1 N=0:=b;refine .mk [] [3] _ R R R R R (Ql (l:=Qbe N) (l':=swN N a k) ?_) rfl;rw[Qpr (fun e=>b e.2) t]
 ·rename_i i b;subst b;refine .mk [] [3] _ R R R R R (Ql (l:=[s0 N,s1 N,s2 N,s3 N,s4 N,Int.tmod (k%256) 4,s6 N,s7 N]) (l':=swN N 2 k) ?_) rfl;have e:Int.tmod (k%256) 4=k%4:=by rw[Yi (by omega)];omega
  rw[QF3,e]
 ·rename_i i b;refine .mk [] [3] _ R R R R R (Ql (l:=Qbe N) (l':=swN N a k) ?_) rfl;rw[Qpr (fun e=>i e.1) b]
def Qub:PSpec:=⟨[gC,gD,gi],fun(c,d,k,_)=>(some (c.2.1=5),Qff,[.arr (.int .i64) (QlP d.1 k)])⟩
theorem Quc:G0 73 Qub.spec:=by
 have f:S0 _:=Qa QbL (Qa QbC (Qb (T:=tree)));have j:=tabs f Qc;refine Qub.gd j f Tryz.func73 fun(c:Cv) (d:Dv) (k:Int) p=>?_
 obtain⟨D,s,F,cs,E⟩:=c;obtain rfl:s=5:=p _ rfl;obtain⟨N,M⟩:=d
 repeat' first|(apply Ea;conv=>whnf)|apply Eb|apply Ec|apply Ed|apply Ee|(apply Ei;intro _)|apply Ef j f
 all_goals first
  |exact rfl
  |exact Ya rfl
  |(rename_i h
    have h:s3 N=1:=h;refine .mk [] [3] _ R R R R R (Ql (l:=[s0 N,s1 N,s2 N,s3 N,1,s5 N,s6 N,s7 N]) ?_) rfl;show _=QlP N k
    rw[QlP,Yf h,Yf h,h])
  |(rename_i h
    have h:¬s3 N=1:=h;refine .mk [] [3] _ R R R R R (Ql (l:=[s0 N,s1 N,k%256,1,s4 N,s5 N,s6 N,s7 N]) ?_) rfl;show _=QlP N k
    rw[QlP,Yb h,Yb h])
def QcW(N:List Int):Bool:=(decide (s5 N%2=1)&&decide (s3 N=1))||(decide (s5 N≥2)&&decide (s1 N=0))
theorem QF4{N:List Int}(h:s5 N%2=1)(m:s3 N=1):true=QcW N:=by unfold QcW;rw[Yl h,Yl m];rfl
theorem Qx9{N:List Int}(h:¬(s5 N%2=1∧s3 N=1))(m:s5 N≥2):decide (s1 N=0)=QcW N:=by
 unfold QcW;rw[←Bool.decide_and,Yn h,Yl m];rfl
theorem Qya{N:List Int}(h:¬(s5 N%2=1∧s3 N=1))(m:¬s5 N≥2):false=QcW N:=by
 unfold QcW;rw[←Bool.decide_and,Yn h,Yn m];rfl
def QF5:PSpec:=⟨[gD],fun(d,_)=>(none,.cell (bv (QcW d.1)),[])⟩
theorem QC9:G0 126 QF5.spec:=by
 have f:S0 _:=Qa Qe2 (Qb (T:=tree));have j:=tabs f Qc;refine QF5.gd j f Tryz.func126 fun(d:Dv) _=>?_
 obtain⟨N,M⟩:=d;obtain⟨w,u,m,C,B,n,A,y⟩:=sR N;obtain⟨c1,c2⟩:=QNL n.1 n.2
 repeat' first|(apply Ea;conv=>whnf)|apply Eb|apply Ec|apply Ed|apply Ee|(apply Ei;intro _)|apply Ef j f
 all_goals first
  |exact Ya rfl
  |skip
 ·rename_i g q;have g:(land .i64 (s5 N) 1 != 0)=true:=g;rw[c1] at g;have g:=Ya g;have q:s3 N=1:=q;refine .k [] [] _ rfl (Qj ?_);show true=QcW N;exact QF4 g q
 ·rename_i g q r;have g:(land .i64 (s5 N) 1 != 0)=true:=g;rw[c1] at g;have g:=Ya g;have q:¬s3 N=1:=q;have r:(land .i64 (s5 N) 2 != 0)=true:=r;rw[c2] at r;have r:=Ya r;refine .k [] [] _ rfl (Qj ?_);show decide (s1 N=0)=QcW N;exact Qx9 (fun e=>q e.2) r
 ·rename_i g q r;have g:(land .i64 (s5 N) 1 != 0)=true:=g;rw[c1] at g;have g:=Ya g;have q:¬s3 N=1:=q;have r:(land .i64 (s5 N) 2 != 0)=false:=r;rw[c2] at r;have r:=of_decide_eq_false r;refine .k [] [] _ rfl (Qj ?_);show false=QcW N;exact Qya (fun e=>q e.2) r
 ·rename_i g r;have g:(land .i64 (s5 N) 1 != 0)=false:=g;rw[c1] at g;have g:=of_decide_eq_false g;have r:(land .i64 (s5 N) 2 != 0)=true:=r;rw[c2] at r;have r:=Ya r;refine .k [] [] _ rfl (Qj ?_);show decide (s1 N=0)=QcW N;exact Qx9 (fun e=>g e.1) r
 ·rename_i g r;have g:(land .i64 (s5 N) 1 != 0)=false:=g;rw[c1] at g;have g:=of_decide_eq_false g;have r:(land .i64 (s5 N) 2 != 0)=false:=r;rw[c2] at r;have r:=of_decide_eq_false r;refine .k [] [] _ rfl (Qj ?_);show false=QcW N;exact Qya (fun e=>g e.1) r
def QF6:PSpec:=⟨[gC,gD],fun(c,d,_)=>(some (c.2.1=5),.cell (bv (QcW d.1)),[])⟩
theorem QDa:G0 16 QF6.spec:=by
 have f:S0 _:=Qa QbL (Qb (T:=tree));have j:=tabs f Qc;refine QF6.gd j f Tryz.func16 fun(c:Cv) (d:Dv) p=>?_
 obtain⟨D,s,F,cs,E⟩:=c;obtain rfl:s=5:=p _ rfl;obtain⟨N,M⟩:=d;obtain⟨w,u,m,C,B,n,A,y⟩:=sR N
 repeat' first|(apply Ea;conv=>whnf)|apply Eb|apply Ec|apply Ed|apply Ee|(apply Ei;intro _)|apply Ef j f
 all_goals first
  |exact rfl
  |exact Ya rfl
  |skip
 ·rename_i g q;have g:Int.tmod (s5 N) 2=1:=g;rw[Yi n.1] at g;have q:s3 N=1:=q;refine .k [] [] _ rfl (Qj ?_);show true=QcW N;exact QF4 g q
 ·rename_i g q r;have g:Int.tmod (s5 N) 2=1:=g;rw[Yi n.1] at g;have q:¬s3 N=1:=q;have r:s5 N≥2:=r;refine .k [] [] _ rfl (Qj ?_);show decide (s1 N=0)=QcW N;exact Qx9 (fun e=>q e.2) r
 ·rename_i g q r;have g:Int.tmod (s5 N) 2=1:=g;rw[Yi n.1] at g;have q:¬s3 N=1:=q;have r:¬s5 N≥2:=r;refine .k [] [] _ rfl (Qj ?_);show false=QcW N;exact Qya (fun e=>q e.2) r
 ·rename_i g r;have g:¬Int.tmod (s5 N) 2=1:=g;rw[Yi n.1] at g;have r:s5 N≥2:=r;refine .k [] [] _ rfl (Qj ?_);show decide (s1 N=0)=QcW N;exact Qx9 (fun e=>g e.1) r
 ·rename_i g r;have g:¬Int.tmod (s5 N) 2=1:=g;rw[Yi n.1] at g;have r:¬s5 N≥2:=r;refine .k [] [] _ rfl (Qj ?_);show false=QcW N;exact Qya (fun e=>g e.1) r
def QF7:PSpec:=⟨[gD],fun(d,_)=>(none,I (s6 d.1*256+s7 d.1),[])⟩
theorem QDb:G0 216 QF7.spec:=by
 have f:S0 _:=Qa Qe2 (Qb (T:=tree));have j:=tabs f Qc;refine QF7.gd j f Tryz.func216 fun(d:Dv) _=>?_
 obtain⟨N,M⟩:=d;obtain⟨w,u,m,C,B,n,A,y⟩:=sR N
 repeat' first|(apply Ea;conv=>whnf)|apply Eb|apply Ec|apply Ed|apply Ee|(apply Ei;intro _)|apply Ef j f
 all_goals first
  |exact Ya rfl
  |(refine .k [] [] _ rfl (Qd ?_)
    show i64.wrap (i64.wrap (256*s6 N)+s7 N)=s6 N*256+s7 N
    rw[w64 (x:=256*s6 N) (by omega) (by omega),w64 (by omega) (by omega)];omega)
def Qud:PSpec:=⟨[gC,gD],fun(c,d,_)=>(some (c.2.1=5),I (s6 d.1*256+s7 d.1),[])⟩
theorem Que:G0 72 Qud.spec:=by
 have f:S0 _:=Qa QbL (Qb (T:=tree));have j:=tabs f Qc;refine Qud.gd j f Tryz.func72 fun(c:Cv) (d:Dv) p=>?_
 obtain⟨D,s,F,cs,E⟩:=c;obtain rfl:s=5:=p _ rfl;obtain⟨N,M⟩:=d;obtain⟨w,u,m,C,B,n,A,y⟩:=sR N
 repeat' first|(apply Ea;conv=>whnf)|apply Eb|apply Ec|apply Ed|apply Ee|(apply Ei;intro _)|apply Ef j f
 all_goals first
  |exact rfl
  |exact Ya rfl
  |(refine .k [] [] _ rfl (Qd ?_)
    show i64.wrap (i64.wrap (s6 N*256)+s7 N)=s6 N*256+s7 N
    rw[w64 (x:=s6 N*256) (by omega) (by omega),w64 (by omega) (by omega)])
def Qea(N:List Int):Int:=if s1 N=0 then 100000 else s1 N-1
def QA7:PSpec:=⟨[gD],fun(d,_)=>(none,I (Qea d.1),[])⟩
theorem Qyb:G0 150 QA7.spec:=by
 have f:S0 _:=Qa Qe2 (Qb (T:=tree));have j:=tabs f Qc;refine QA7.gd j f Tryz.func150 fun(d:Dv) _=>?_
 obtain⟨N,M⟩:=d;obtain⟨w,u,m,C,B,n,A,y⟩:=sR N
 repeat' first|(apply Ea;conv=>whnf)|apply Eb|apply Ec|apply Ed|apply Ee|(apply Ei;intro _)|apply Ef j f
 all_goals first
  |exact Ya rfl
  |(rename_i h
    have h:s1 N=0:=h;refine .k [] [] _ rfl (Qd ?_);show _=Qea N
    rw[Qea,Yf h])
  |(rename_i h
    have h:¬s1 N=0:=h;refine .k [] [] _ rfl (Qd ?_);show i64.wrap (s1 N-1)=Qea N
    rw[Qea,Yb h,w64 (by omega) (by omega)])
theorem QC6(n i:Nat):n &&& 2 ^ i=n/2 ^ i%2*2 ^ i:=by
 apply Nat.eq_of_testBit_eq;intro j;rw[Nat.testBit_and,Nat.testBit_two_pow];have f:n.testBit i=decide (n/2 ^ i%2=1):=Nat.testBit_eq_decide_div_mod_eq;rcases Nat.mod_two_eq_zero_or_one (n/2 ^ i) with h|h
 ·rw[h] at f ⊢;rw[Nat.zero_mul,Nat.zero_testBit];by_cases e:i=j
  ·subst e;rw[f];simp
  ·simp[e]
 ·rw[h] at f ⊢;rw[Nat.one_mul,Nat.testBit_two_pow];by_cases e:i=j
  ·subst e;rw[f];simp
  ·simp[e]
theorem Qpn(k:Int):land .i64 k 128=k/128%2*128:=by
 have e:u64 128=2 ^ 7:=by decide
 have h:=QC6 (u64 k) 7;have f:u64 k/2 ^ 7%2≤1:=by omega
 rw[Qfx _ _ (by rw[e,h];omega),e,h];unfold u64;omega
def twN(N:List Int)(a k:Int):List Int :=
 [if a=2∧k/128%2=1 then tB N else tA N,if a=0 then tB N/256*256+k%256 else if a=1 then tB N%256+256*(k%256) else tB N,if a=2 then k%8 else tC N,tF N]
def Qt7:PSpec:=⟨[gD,gi,gi],fun(d,a,k,_)=>(none,Qff,[.arr (.int .i64) (twN d.1 a k)])⟩
theorem Qt8:G0 180 Qt7.spec:=by
 have b:S0 _:=Qa Qia (Qa QU (Qa Qic (Qb (T:=tree))));have g:=tabs b Qc;refine Qt7.gd g b Tryz.func180 fun(d:Dv) (a k:Int) _=>?_
 obtain⟨N,M⟩:=d;obtain⟨rA,rB,rC,rF⟩:=tR N
 repeat' first|(apply Ea;conv=>whnf)|apply Eb|apply Ec|apply Ed|apply Ee|(apply Ei;intro _)|apply Ef g b
 all_goals(try subst_vars)
 all_goals first
  |exact rfl
  |exact Ya rfl
  |(refine⟨?_,?_,by decide,by decide,by decide⟩
    ·exact rB.1
    ·exact(by omega:tB N<4611686018427387904))
  |skip
 ·refine .mk [] [2] _ R R R R R (Qbl (l:=[tA N,2 ^ (0:Int).toNat*(2 ^ (8:Int).toNat*(tB N/2 ^ (0+8:Int).toNat)+k%2 ^ (8:Int).toNat)+tB N%2 ^ (0:Int).toNat,tC N,tF N]) ?_) rfl;show _=twN N 0 k
  have e:(2 ^ (0:Int).toNat*(2 ^ (8:Int).toNat*(tB N/2 ^ (0+8:Int).toNat)+k%2 ^ (8:Int).toNat)+tB N%2 ^ (0:Int).toNat)=tB N/256*256+k%256:=by
   show(1:Int)*(256*(tB N/256)+k%256)+tB N%1=_;omega
  rw[e];rfl
 ·refine .mk [] [2] _ R R R R R (Qbl (l:=[tA N,2 ^ (8:Int).toNat*(2 ^ (8:Int).toNat*(tB N/2 ^ (8+8:Int).toNat)+k%2 ^ (8:Int).toNat)+tB N%2 ^ (8:Int).toNat,tC N,tF N]) ?_) rfl;show _=twN N 1 k
  have e:(2 ^ (8:Int).toNat*(2 ^ (8:Int).toNat*(tB N/2 ^ (8+8:Int).toNat)+k%2 ^ (8:Int).toNat)+tB N%2 ^ (8:Int).toNat)=tB N%256+256*(k%256):=by
   show(256:Int)*(256*(tB N/65536)+k%256)+tB N%256=_;omega
  rw[e];rfl
 ·rename_i h _ _ _;have h:(land .i64 k 128 != 0)=true:=h;refine .mk [] [2] _ R R R R R (Qbl (l:=[tB N,tB N,k%2 ^ (3:Int).toNat,tF N]) ?_) rfl;show _=twN N 2 k;have h:k/128%2=1:=by rw[Qpn] at h;simp at h;omega
  rw[twN,Yf ⟨rfl,h⟩];rfl
 ·rename_i h _ _ _;have h:(land .i64 k 128 != 0)=false:=h;refine .mk [] [2] _ R R R R R (Qbl (l:=[tA N,tB N,k%2 ^ (3:Int).toNat,tF N]) ?_) rfl;show _=twN N 2 k;have h:¬k/128%2=1:=by rw[Qpn] at h;simp at h;omega
  rw[twN,Yb (fun e=>h e.2)];rfl
 ·rename_i q p m;refine .mk [] [2] _ R R R R R (Qbl (l:=Qbk N) ?_) rfl;show _=twN N a k;simp only[twN,Qb6,Yb q,Yb p,Yb m];rw[Yb (fun e=>m e.1)]
def Qpo:PSpec:=⟨[gC,gD,gi,gi],fun(c,d,a,k,_)=>(some (c.2.1=3),Qff,[.arr (.int .i64) (twN d.1 a k)])⟩
theorem Qrr:G0 77 Qpo.spec:=by
 have b:S0 _:=Qa Qdd (Qa QbC (Qb (T:=tree)));have g:=tabs b Qc;refine Qpo.gd g b Tryz.func77 fun(c:Cv) (d:Dv) (a k:Int) hp=>?_
 obtain⟨cn,ck,cb,cs,cd⟩:=c;obtain rfl:ck=3:=hp _ rfl;obtain⟨N,M⟩:=d;obtain⟨rA,rB,rC,rF⟩:=tR N
 repeat' first|(apply Ea;conv=>whnf)|apply Eb|apply Ec|apply Ed|apply Ee|(apply Ei;intro _)|apply Ef g b
 all_goals(try subst_vars)
 all_goals first
  |exact rfl
  |exact Ya rfl
  |skip
 ·refine .mk [] [3] _ R R R R R (Qbl (l:=[tA N,i64.wrap (i64.wrap (i64.wrap (Int.tdiv (tB N) 256)*256)+k%256),tC N,tF N]) ?_) rfl;show _=twN N 0 k;rw[Yp (by omega),w64 (x:=tB N/256) (by omega) (by omega),w64 (x:=tB N/256*256) (by omega) (by omega),w64 (by omega) (by omega)];rfl
 ·refine .mk [] [3] _ R R R R R (Qbl (l:=[tA N,i64.wrap (Int.tmod (tB N) 256+i64.wrap (256*(k%256))),tC N,tF N]) ?_) rfl;show _=twN N 1 k;rw[Yi (by omega),w64 (x:=256*(k%256)) (by omega) (by omega),w64 (by omega) (by omega)];rfl
 ·rename_i h _ _;have h:i64.wrap (Int.tdiv (k%256) 128)=1:=h;refine .mk [] [3] _ R R R R R (Qbl (l:=[tB N,tB N,Int.tmod (k%256) 8,tF N]) ?_) rfl;show _=twN N 2 k;have h:k/128%2=1:=by rw[Yp (by omega),w64 (by omega) (by omega)] at h;omega
  have e:Int.tmod (k%256) 8=k%8:=by rw[Yi (by omega)];omega
  rw[twN,Yf ⟨rfl,h⟩,e];rfl
 ·rename_i h _ _;have h:¬i64.wrap (Int.tdiv (k%256) 128)=1:=h;refine .mk [] [3] _ R R R R R (Qbl (l:=[tA N,tB N,Int.tmod (k%256) 8,tF N]) ?_) rfl;show _=twN N 2 k;have h:¬k/128%2=1:=by rw[Yp (by omega),w64 (by omega) (by omega)] at h;omega
  have e:Int.tmod (k%256) 8=k%8:=by rw[Yi (by omega)];omega
  rw[twN,Yb (fun e=>h e.2),e];rfl
 ·rename_i q p m;refine .mk [] [3] _ R R R R R (Qbl (l:=Qbk N) ?_) rfl;show _=twN N a k;simp only[twN,Qb6,Yb q,Yb p,Yb m];rw[Yb (fun e=>m e.1)]
theorem Qgt(n:Nat)(l:List Int):Qa1 (n+1) l=QaJ (Qa1 n l):=by
 rw[Qh9 n 1];rfl
theorem QfI(N:List Int):∀n,Qbk (Qa1 n (Qbk N))=Qa1 n (Qbk N)
 |0=>QfH N
 |n+1=>by rw[Qgt];exact Qt3 (QfI N n)
theorem Qhc{x y:Int}(h2:x=y):AV.tup [.agg [.own 0,.imm (.slice none 0 0)],I1 x]=AV.tup [.agg [.own 0,.imm (.slice none 0 0)],I1 y]:=by rw[h2]
def trF(N:List Int)(a:Int):Int:=Qb0 [tA N%256,tA N/256,tC N,tF N] a
def trN(N:List Int)(a:Int):List Int:=[tA N,tB N,tC N,if a=3 then 0 else tF N]
def QA5:PSpec:=⟨[gD,gi],fun(d,a,_)=>(none,.tup [.agg [.own 0,.imm (.slice none 0 0)],I1 (trF d.1 a)],[.arr (.int .i64) (trN d.1 a)])⟩
theorem Qx7:G0 173 QA5.spec:=by
 have b:S0 _:=Qa Qia (Qa Qib (Qb (T:=tree)));have f:=tabs b Qc;refine QA5.gd f b Tryz.func173 fun(d:Dv) (a:Int) _=>?_
 obtain⟨N,M⟩:=d;obtain⟨rA,rB,rC,rF⟩:=tR N
 repeat' first|(apply Ea;conv=>whnf)|apply Eb|apply Ec|apply Ed|apply Ee|(apply Ei;intro _)|apply Ef f b
 all_goals(try subst_vars)
 all_goals first
  |exact rfl
  |exact Ya rfl
  |(refine⟨?_,?_,by decide,by decide,by decide⟩
    ·exact rA.1
    ·exact(by omega:tA N<4611686018427387904))
  |exact .k [] [2] _ R R
  |skip
 ·refine .k [] [2] _ rfl (Qhc ?_);show tA N/1%256=tA N%256;omega
 ·refine .k [] [2] _ rfl (Qhc ?_);show tA N/256%256=tA N/256;omega
 ·rename_i h0 h1 h2 h3
  have e:trF N a=0:=QhU fun i hi=>by
   have:i<4:=hi;omega
  refine .mk [] [2] _ R R R R R (Qbl (l:=Qbk N) ?_) (Qhc e.symm);show _=trN N a;rw[Qb6,trN,Yb h3]
def Qpp:PSpec:=⟨[gC,gD,gi],fun(c,d,a,_)=>(some (c.2.1=3),.tup [.agg [.own 0,.imm (.slice none 0 0)],I1 (trF d.1 a)],[.arr (.int .i64) (trN d.1 a)])⟩
theorem Qrs:G0 76 Qpp.spec:=by
 have b:S0 _:=Qa Qdd (Qa Qgq (Qb (T:=tree)));have f:=tabs b Qc;refine Qpp.gd f b Tryz.func76 fun(c:Cv) (d:Dv) (a:Int) g=>?_
 obtain⟨cn,j,cb,cs,cd⟩:=c;obtain rfl:j=3:=g _ rfl;obtain⟨N,M⟩:=d;obtain⟨rA,rB,rC,rF⟩:=tR N
 repeat' first|(apply Ea;conv=>whnf)|apply Eb|apply Ec|apply Ed|apply Ee|(apply Ei;intro _)|apply Ef f b
 all_goals first
  |exact rfl
  |exact Ya rfl
  |skip
 ·rename_i h;have h:a=3:=h;subst h;exact .k [] [4] _ R R
 ·rename_i h;have h:¬a=3:=h;refine .mk [] [4] _ R R R R R (Qbl (l:=Qbk N) ?_) (Qhc ?_)
  ·show _=trN N a;rw[Qb6,trN,Yb h]
  ·show Qb0 [Int.tmod (tA N) 256,i64.wrap (Int.tdiv (tA N) 256),tC N,tF N] a=Qb0 [tA N%256,tA N/256,tC N,tF N] a;rw[Yi (by omega),Yp (by omega),w64 (by omega) (by omega)]
def QF0:PSpec:=⟨[gD],fun(d,_)=>(none,.cell (bv (decide (tF d.1=1)&&decide (tC d.1≥4))),[])⟩
theorem QC7:G0 125 QF0.spec:=by
 have b:S0 _:=Qa Qia (Qb (T:=tree));have f:=tabs b Qc;refine QF0.gd f b Tryz.func125 fun(d:Dv) _=>?_
 obtain⟨N,M⟩:=d;obtain⟨rA,rB,rC,rF⟩:=tR N;obtain⟨c1,c2,c4,c3⟩:=ctl rC.1 rC.2
 repeat' first|(apply Ea;conv=>whnf)|apply Eb|apply Ec|apply Ed|apply Ee|(apply Ei;intro _)|apply Ef f b
 all_goals first
  |exact Ya rfl
  |skip
 ·rename_i h;have h:tF N=1:=h;refine .k [] [] _ rfl (Qj ?_);show(land .i64 (tC N) 4 != 0)=(decide (tF N=1)&&decide (tC N≥4))
  rw[c4,Yl h,Bool.true_and]
 ·rename_i h;have h:¬tF N=1:=h;refine .k [] [] _ rfl (Qj ?_);show _=(decide (tF N=1)&&decide (tC N≥4))
  rw[Yn h];rfl
def QF1:PSpec:=⟨[gC,gD],fun(c,d,_)=>(some (c.2.1=3),.cell (bv (decide (tF d.1=1)&&decide (tC d.1≥4))),[])⟩
theorem QC8:G0 16 QF1.spec:=by
 have b:S0 _:=Qa Qdd (Qb (T:=tree));have f:=tabs b Qc;refine QF1.gd f b Tryz.func16 fun(c:Cv) (d:Dv) g=>?_
 obtain⟨cn,j,cb,cs,cd⟩:=c;obtain rfl:j=3:=g _ rfl;obtain⟨N,M⟩:=d
 repeat' first|(apply Ea;conv=>whnf)|apply Eb|apply Ec|apply Ed|apply Ee|(apply Ei;intro _)|apply Ef f b
 all_goals first
  |exact rfl
  |exact Ya rfl
  |skip
 ·rename_i h;have h:tF N=1:=h;refine .k [] [] _ rfl (Qj ?_);show decide (tC N≥4)=(decide (tF N=1)&&decide (tC N≥4))
  rw[Yl h,Bool.true_and]
 ·rename_i h;have h:¬tF N=1:=h;refine .k [] [] _ rfl (Qj ?_);show _=(decide (tF N=1)&&decide (tC N≥4))
  rw[Yn h];rfl
def Qd9(N:List Int):Int:=if tC N%2=0 then 100000 else tA N
def QA6:PSpec:=⟨[gD],fun(d,_)=>(none,I (Qd9 d.1),[])⟩
theorem Qx8:G0 149 QA6.spec:=by
 have b:S0 _:=Qa Qia (Qb (T:=tree));have f:=tabs b Qc;refine QA6.gd f b Tryz.func149 fun(d:Dv) _=>?_
 obtain⟨N,M⟩:=d;obtain⟨rA,rB,rC,rF⟩:=tR N;obtain⟨c1,c2,c4,c3⟩:=ctl rC.1 rC.2
 repeat' first|(apply Ea;conv=>whnf)|apply Eb|apply Ec|apply Ed|apply Ee|(apply Ei;intro _)|apply Ef f b
 all_goals first
  |exact Ya rfl
  |skip
 ·rename_i h;have h:land .i64 (tC N) 1=0:=h;rw[h] at c1;refine .k [] [] _ rfl (Qd ?_);show _=Qd9 N;rw[Qd9,Yf (Ya c1.symm)]
 ·rename_i h;have h:¬land .i64 (tC N) 1=0:=h
  have hc:¬tC N%2=0:=by
   intro e;rw[Yl e] at c1;exact h (by simpa using c1)
  refine .k [] [] _ rfl (Qd ?_);show _=Qd9 N;rw[Qd9,Yb hc];rfl
theorem QeR(c:Int):land .i64 c 1=c%2:=by
 have e:(BitVec.ofInt 64 c &&& BitVec.ofInt 64 1).toNat=(BitVec.ofInt 64 c).toNat%2:=by
  rw[BitVec.toNat_and];exact Nat.and_one_is_mod _
 show i64.wrap (((BitVec.ofInt 64 c &&& BitVec.ofInt 64 1).toNat:Nat):Int)=_;rw[e,QQ,w64 (by omega) (by omega)];unfold u64;omega
theorem QnQ(x:Int)(k:Nat)(h:k≤64):shr .i64 x (k:Int)=x/2 ^ k:=by
 show x.fdiv (2 ^ (min ((k:Int).toNat) 64))=_;have:min ((k:Int).toNat) 64=k:=by omega
 rw[this];exact Int.fdiv_eq_ediv_of_nonneg _ (by have:(0:Int)≤((2 ^ k:Nat):Int):=Int.natCast_nonneg _;simpa using this)
theorem QLO(x:Int):shr .i64 x 8=x/256:=QnQ x 8 (by omega)
theorem QNN(x:Int):shr .i64 x 1=x/2:=QnQ x 1 (by omega)
theorem QNO(x:Int):shr .i64 x 7=x/128:=QnQ x 7 (by omega)
theorem QeS:QaH 8=8:=by decide
theorem p8:(2:Int) ^ (8:Int).toNat=256:=by decide
theorem QLP(x:Int)(h:0≤x∧x<65536):shl .i64 x 1=2*x:=by
 show i64.wrap (x*2 ^ (min ((1:Int).toNat) 64))=_;have:min ((1:Int).toNat) 64=1:=by decide
 rw[this,w64 (by omega) (by omega)];omega
theorem QLQ(x:Int)(h:0≤x∧x<65536):shl .i64 x 8=256*x:=by
 show i64.wrap (x*2 ^ (min ((8:Int).toNat) 64))=_;have:min ((8:Int).toNat) 64=8:=by decide
 rw[this,w64 (by omega) (by omega)];omega
theorem QGZ:shl .i64 1 8=256:=by decide
theorem QG0(x c:Int)(h:0≤x∧x<256)(i:c=0∨c=1):lor .i64 (2*x) c=2*x+c:=by
 rcases i with rfl|rfl
 ·exact QdN (fun x=>lor .i64 (2*x) 0=2*x+0) (by decide +kernel) x h.1 h.2
 ·exact QdN (fun x=>lor .i64 (2*x) 1=2*x+1) (by decide +kernel) x h.1 h.2
theorem QDL(x c:Int)(h:0≤x∧x<256)(i:c=0∨c=1):lor .i64 x (256*c)=x+256*c:=by
 rcases i with rfl|rfl
 ·exact QdN (fun x=>lor .i64 x (256*0)=x+256*0) (by decide +kernel) x h.1 h.2
 ·exact QdN (fun x=>lor .i64 x (256*1)=x+256*1) (by decide +kernel) x h.1 h.2
abbrev Qw8(c:Int):Prop:=c=0∨c=1
def QG1(a b c n:Int):Prop:=(0≤a∧a<256)∧(0≤b∧b<256)∧Qw8 c∧n=8
def QG2:PSpec:=⟨[gi,gi,gi,gi],fun(a,b,c,n,_)=>(some (QG1 a b c n),.tup [I1 ((a+b+c)%256),I1 ((a+b+c)/256)],[])⟩
theorem QDM:G0 264 QG2.spec:=by
 have d:S0 _:=Qa QcL (Qa QU (Qb (T:=tree)));have g:=tabs d Qc;refine QG2.gd g d Tryz.func264 fun(a b c n:Int) j=>?_
 obtain⟨ha,hb,i,rfl⟩:QG1 a b c n:=j _ rfl
 repeat' first|(apply Ea;conv=>whnf)|apply Eb|apply Ec|apply Ed|apply Ee|(apply Ei;intro _)|apply Ef g d
 all_goals first
  |exact Ya rfl
  |skip
 refine .k [] [] _ rfl (Qeq ?_ ?_)
 ·rw[QeS,p8,QeR];simp only[Qkz];omega
 ·rw[QeS,p8,QeR,QLO];simp only[Qkz];omega
def QkK(x:Int):Int:=if x<0 then 1 else 0
def QG3:PSpec:=⟨[gi,gi,gi,gi],fun(a,b,c,n,_)=>(some (QG1 a b c n),.tup [I1 ((a-b-c)%256),I1 (QkK (a-b-c))],[])⟩
theorem QDN:G0 267 QG3.spec:=by
 have d:S0 _:=Qa QcL (Qa QU (Qb (T:=tree)));have g:=tabs d Qc;refine QG3.gd g d Tryz.func267 fun(a b c n:Int) j=>?_
 obtain⟨ha,hb,i,rfl⟩:QG1 a b c n:=j _ rfl
 repeat' first|(apply Ea;conv=>whnf)|apply Eb|apply Ec|apply Ed|apply Ee|(apply Ei;intro _)|apply Ef g d
 all_goals first
  |exact Ya rfl
  |skip
 all_goals
  rename_i h;dsimp only[gi,Den] at h;rw[QeS,p8,QeR] at h;simp only[Qkz] at h;refine .k [] [] _ rfl (Qeq ?_ ?_)
  ·simp only[QeS,p8,QeR,QGZ,Qkz];rcases i with rfl|rfl<;>omega
  ·unfold QkK;rcases i with rfl|rfl<;>split<;>omega
def okN(n c b:Int):Prop:=Qw8 c∧b=8
def QG4:PSpec:=⟨[gi,gi,gi],fun(n,c,b,_)=>(some (okN n c b),.tup [I1 ((n*2+c)%256),I1 (n%256/128)],[])⟩
theorem QDO:G0 268 QG4.spec:=by
 have d:S0 _:=Qa QcL (Qa QU (Qb (T:=tree)));have g:=tabs d Qc;refine QG4.gd g d Tryz.func268 fun(n c b:Int) j=>?_
 obtain⟨i,rfl⟩:okN n c b:=j _ rfl;have q:c%2=c:=by rcases i with rfl|rfl<;>rfl
 repeat' first|(apply Ea;conv=>whnf)|apply Eb|apply Ec|apply Ed|apply Ee|(apply Ei;intro _)|apply Ef g d
 all_goals first
  |exact Ya rfl
  |skip
 have m:=QG0 (n%256) c (by omega) i;refine .k [] [] _ rfl (Qeq ?_ ?_)
 ·simp only[QeS,p8,QeR,q];rw[QLP _ (by omega),m];rcases i with rfl|rfl<;>omega
 ·simp only[QeS,p8,QeR,q];rw[QLP _ (by omega),m,QLO];rcases i with rfl|rfl<;>omega
def QG5:PSpec:=⟨[gi,gi,gi],fun(n,c,b,_)=>(some (okN n c b),.tup [I1 (n%256/2+128*c),I1 (n%2)],[])⟩
theorem QDP:G0 269 QG5.spec:=by
 have d:S0 _:=Qa QcL (Qa QU (Qb (T:=tree)));have g:=tabs d Qc;refine QG5.gd g d Tryz.func269 fun(n c b:Int) j=>?_
 obtain⟨i,rfl⟩:okN n c b:=j _ rfl;have q:c%2=c:=by rcases i with rfl|rfl<;>rfl
 repeat' first|(apply Ea;conv=>whnf)|apply Eb|apply Ec|apply Ed|apply Ee|(apply Ei;intro _)|apply Ef g d
 all_goals first
  |exact Ya rfl
  |skip
 have m:=QDL (n%256) c (by omega) i;refine .k [] [] _ rfl (Qeq ?_ ?_)
 ·simp only[QeS,p8,QeR,q];rw[QLQ _ (by rcases i with rfl|rfl<;>omega),m,QNN];rcases i with rfl|rfl<;>omega
 ·simp only[QeS,p8,q,QeR];rw[QLQ _ (by rcases i with rfl|rfl<;>omega),m];rcases i with rfl|rfl<;>omega
def QG6:PSpec:=⟨[gi,gi],fun(n,b,_)=>(some ((b:Int)=8),I (n%256-n%256/128*256),[])⟩
theorem QDQ:G0 253 QG6.spec:=by
 have d:S0 _:=Qa QcL (Qa QU (Qb (T:=tree)));have g:=tabs d Qc;refine QG6.gd g d Tryz.func253 fun(n b:Int) j=>?_
 obtain rfl:b=8:=j _ rfl
 repeat' first|(apply Ea;conv=>whnf)|apply Eb|apply Ec|apply Ed|apply Ee|(apply Ei;intro _)|apply Ef g d
 all_goals first
  |exact(by decide:0≤QaH 8∧QaH 8≤62)
  |exact(by decide:0≤i64.wrap (QaH 8-1))
  |exact(by decide:0≤QaH 8)
  |skip
 all_goals
  rename_i h;dsimp only[gi,Den] at h;rw[QeS,p8,show i64.wrap (8-1)=7 by decide,QNO] at h;refine .k [] [] _ rfl (Qd ?_);simp only[QeS,p8,QGZ,Qkz];omega
def QcF(p f:Int)(on:Bool):Int:=cond on (lor .i64 (Q6 .i64 p f) f) (Q6 .i64 p f)
def QG7:PSpec:=⟨[gR,gi,gB],fun(r,f,on,_)=>(some (List.length r=9),.agg [.run .i64 9 (List.set r 4 (QcF (List.getD r 4 0) f on))],[])⟩
theorem QkL:G0 252 QG7.spec:=by
 have d:S0 _:=(Qb (T:=tree))
 have g:=tabs d Qc;refine QG7.gd g d Tryz.func252 fun(r:List Int) (f:Int) (on:Bool) j=>?_
 have s:r.length=9:=j _ rfl;obtain⟨r0,r1,r2,r3,r4,r5,r6,r7,r8,rfl⟩:=nine s;cases on
 all_goals
  repeat' first|(apply Ea;conv=>whnf)|apply Eb|apply Ec|apply Ed|apply Ee|(apply Ei;intro _)|apply Ef g d
 all_goals first
  |exact Ya rfl
  |exact .k [] [] _ R R
def nzV(p n:Int):Int:=QcF (QcF p 2 (decide (n=0))) 128 (decide (n≥128))
def nzS:PSpec:=⟨[gR,gi],fun(r,n,_)=>(some (List.length r=9),.agg [.run .i64 9 (List.set r 4 (nzV (List.getD r 4 0) n))],[])⟩
theorem QDR:G0 248 nzS.spec:=by
 have d:S0 _:=Qa QkL (Qb (T:=tree));have g:=tabs d Qc;refine nzS.gd g d Tryz.func248 fun(r:List Int) (n:Int) j=>?_
 have s:r.length=9:=j _ rfl;obtain⟨r0,r1,r2,r3,r4,r5,r6,r7,r8,rfl⟩:=nine s
 repeat' first|(apply Ea;conv=>whnf)|apply Eb|apply Ec|apply Ed|apply Ee|(apply Ei;intro _)|apply Ef g d
 all_goals first
  |exact Ya rfl
  |exact .k [] [] _ R R
def QBv:PSpec:=⟨[gR],fun(r,_)=>(some (List.length r=9),I (land .i64 (List.getD r 4 0) 1),[])⟩
theorem Qp9:G0 265 QBv.spec:=by
 have d:S0 _:=(Qb (T:=tree))
 have g:=tabs d Qc;refine QBv.gd g d Tryz.func265 fun(r:List Int) j=>?_
 have s:r.length=9:=j _ rfl
 repeat' first|(apply Ea;conv=>whnf)|apply Eb|apply Ec|apply Ed|apply Ee|(apply Ei;intro _)|apply Ef g d
 all_goals first
  |exact Ya rfl
  |exact .k [] [] _ R R
def Qar(n:Int):Int:=max 0 (min n 8)
def Qvc:PSpec:=⟨[gi],fun(n,_)=>(none,I (Qar n),[])⟩
theorem Qvd:G0 247 Qvc.spec:=by
 have d:S0 _:=(Qb (T:=tree))
 have g:=tabs d Qc;refine Qvc.gd g d Tryz.func247 fun(n:Int) j=>?_
 repeat' first|(apply Ea;conv=>whnf)|apply Eb|apply Ec|apply Ed|apply Ee|(apply Ei;intro _)|apply Ef g d
 refine .k [] [] _ rfl (Qd ?_);rw[Q8,QS];rfl
theorem Qhh(n:Int):0≤Qar n∧Qar n<9:=by unfold Qar;omega
def okT(t:Int):Prop:=0≤t∧t<9
def Qlg(p n c:Int):Int:=QcF (nzV p n) 1 (decide (c=1))
def Qve:PSpec:=⟨[gR,gi,gi,gi],fun(r,t,n,c,_)=>(some (List.length r=9∧okT t),.agg [.run .i64 9 (List.set (List.set r 4 (Qlg (List.getD r 4 0) n c)) (Int.toNat t) n)],[])⟩
theorem Qmv:G0 266 Qve.spec:=by
 have d:S0 _:=Qa QkL (Qa QDR (Qb (T:=tree)));have g:=tabs d Qc;refine Qve.gd g d Tryz.func266 fun(r:List Int) (t n c:Int) j=>?_
 obtain⟨s,ht⟩:r.length=9∧okT t:=j _ rfl;obtain⟨r0,r1,r2,r3,r4,r5,r6,r7,r8,rfl⟩:=nine s;have u:t.toNat<9:=by have:=ht;unfold okT at this;omega
 repeat' first|(apply Ea;conv=>whnf)|apply Eb|apply Ec|apply Ed|apply Ee|(apply Ei;intro _)|apply Ef g d
 all_goals first
  |exact Ya rfl
  |exact ht
  |exact u
  |exact .k [] [] _ R R
end Go.Proofs.YtofgbclopbmlcaaGreat

