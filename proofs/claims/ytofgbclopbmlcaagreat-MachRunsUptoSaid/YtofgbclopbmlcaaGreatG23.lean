/- Part 23 of the proof. Conditions: none. -/
import Derived.Test.YtofgbclopbmlcaaGreatG22
import Derived.Test.YtofgbclopbmlcaaGreatG17
import Derived.Test.YtofgbclopbmlcaaGreatG19
import Derived.WalkKit
import Derived.Lib.Walk
import Derived.Lib.Bytealg
namespace Go.Proofs.YtofgbclopbmlcaaGreat
open Go.IntKind (i64)
set_option maxHeartbeats 8000000
open Go.Fw
set_option linter.unusedVariables false
set_option linter.unusedSimpArgs false
set_option maxRecDepth 100000
theorem Qpp{v r:Int}(hv:0≤v∧v<16)(hr:0≤r∧r<256):(0<v*r)=(0<r∧0<v):=by
 apply propext;constructor
 ·intro h;by_cases h1:v=0
  ·rw[h1,Int.zero_mul] at h;omega
  ·by_cases h2:r=0
   ·rw[h2,Int.mul_zero] at h;omega
   ·omega
 ·rintro ⟨h1,h2⟩
  exact Int.mul_pos h2 h1
theorem QtZ{v r:Int}(hv:0≤v∧v<16)(hr:0≤r∧r<256):0≤v*r∧v*r<4096:=by
 refine⟨Int.mul_nonneg hv.1 hr.1,?_⟩;have h1:v*r≤15*r:=Int.mul_le_mul_of_nonneg_right (by omega) hr.1;omega
theorem Qjh{p:Prop}(a b:Int)(i:Decidable p):(Decidable.rec (motive:=fun _=>Int) (fun _=>a) (fun _=>b) i)=if p then b else a:=by cases i<;>simp[*]
theorem Ql4{p v r c f w:Int}:Qg [p,v,r,c,f,w]=min (if p>0 then max 1 (p-c)-1 else 100000) (if r>0∧v>0 then max 1 (r*64-w)-1 else 100000):=rfl
def Qt0:PSpec:=⟨[gC,gD],fun(c,d,_)=>(some (c.2.1=7),I (Qpg d.1),[])⟩
theorem Qt1:G0 29 Qt0.spec:=by
 have hP:S0 _:=Qa Qcf (Qb (T:=tree));have hT:=tabs hP Qc;refine Qt0.gd hT hP Tryz.func29 fun(c:Cv) (d:Dv) hp=>?_
 obtain⟨cn,ck,cb,cs,cd⟩:=c;obtain rfl:ck=7:=hp _ rfl;obtain⟨N,M⟩:=d
 repeat' first|(apply Ea;conv=>whnf)|apply Eb|apply Ec<;>intro _|apply Ed<;>intro _|apply Ee<;>intro _|apply Ef hT hP
 all_goals first
  |exact rfl
  |exact of_decide_eq_true rfl
  |skip
 obtain⟨A,hA⟩:∃A,A=vo N 0:=⟨_,rfl⟩
 obtain⟨B,hB⟩:∃B,B=vo N 6:=⟨_,rfl⟩
 have oA:vOk A:=by rw[hA];exact Qaf N 0
 have oB:vOk B:=by rw[hB];exact Qaf N 6
 refine Qai hT hP (X:=Int×Int) (fun(i,o)=>St.mk (E5 (E1 ((I o)::E40 (E20 (E10 (E2 ((.cell (.svar 1 0 2))::(I 2)::(I i)::E40 (E10 (E1 []))))))))) [some (.arr (.int .i64) (A++B)),some (.var [.sub 0 0 6,.sub 0 6 6])])
  (fun(i,o)=>(i=0∧o=100000)∨(i=1∧o=Qg A)∨(i=2∧o=min (Qg A) (Qg B))) (fun(i,_)=>(2-i).toNat) (0,100000) (Le.mk [] [2,3] R R ?_ ?_) ?_ fun(i,o) hi=>?_
 ·show[some (Blk.arr (.int .i64) (vo N 0++vo N 6)),some (Blk.var [.sub 0 0 6,.sub 0 6 6])]=[some (Blk.arr (.int .i64) (A++B)),some (Blk.var [.sub 0 0 6,.sub 0 6 6])]
  rw[hA,hB]
 ·repeat' constructor
 ·exact .inl ⟨rfl,rfl⟩
 rcases hi with⟨rfl,ho⟩|⟨rfl,ho⟩|⟨rfl,ho⟩
 ·have hI:∀z:Int×Int,z.1=1→z.2=Qg A→(z.1=0∧z.2=100000)∨(z.1=1∧z.2=Qg A)∨(z.1=2∧z.2=min (Qg A) (Qg B)):=by
   intro z h1 h2;rw[h1,h2];exact .inr (.inl ⟨rfl,rfl⟩)
  clear hA hB;cases oA with
  |mk hp hv hr hc hf hw =>
  cases oB with
  |mk hp' hv' hr' hc' hf' hw' =>
  rename_i p v r c f w p' v' r' c' f' w';subst ho;have e0:=@Ql4 p v r c f w
  repeat' first|(apply Ea;conv=>whnf)|apply Eb|apply Ec<;>intro _|apply Ed<;>intro _|apply Ee<;>intro _|apply Ef hT hP
  all_goals first
   |exact of_decide_eq_true rfl
   |(exfalso;rename_i h;revert h;decide)
   |skip
  all_goals
   apply Exists.intro (_,_);refine And.intro ?_ (And.intro ?_ (Le.k [] [0,1] ?hh))
   case hh=>repeat' constructor
  all_goals first
   |(show(2-i64.wrap (0+1)).toNat<(2-(0:Int)).toNat
     decide)
   |skip
  all_goals
   refine hI (i64.wrap (0+1),_) rfl ?_;have mp:=Qpp hv hr;have mi:=QtZ hv hr;have ew1:i64.wrap (p-c)=p-c:=w64 (by omega) (by omega);have ew2:i64.wrap (p-c-1)=p-c-1:=w64 (by omega) (by omega);have ew3:i64.wrap (v*r)=v*r:=w64 (by omega) (by omega);have ew4:i64.wrap (64*r)=r*64:=by rw[w64 (by omega) (by omega),Int.mul_comm]
   have ew5:i64.wrap (r*64-w)=r*64-w:=w64 (by omega) (by omega);have ew6:i64.wrap (r*64-w-1)=r*64-w-1:=w64 (by omega) (by omega);clear hT hP hI mi;simp[ew1,ew2,ew3,ew4,ew5,ew6,mp,Qjh,QT,QU] at *
   first|omega|(simp[*];done)|(simp[*];omega)|skip
 ·have hI:∀z:Int×Int,z.1=2→z.2=min (Qg A) (Qg B)→(z.1=0∧z.2=100000)∨(z.1=1∧z.2=Qg A)∨(z.1=2∧z.2=min (Qg A) (Qg B)):=by
   intro z h1 h2;rw[h1,h2];exact .inr (.inr ⟨rfl,rfl⟩)
  have hq1:=Qc8 oA;clear hA hB;cases oA with
  |mk hp hv hr hc hf hw =>
  cases oB with
  |mk hp' hv' hr' hc' hf' hw' =>
  rename_i p' v' r' c' f' w' p v r c f w;rw[←ho] at hq1;have e0:=@Ql4 p v r c f w
  repeat' first|(apply Ea;conv=>whnf)|apply Eb|apply Ec<;>intro _|apply Ed<;>intro _|apply Ee<;>intro _|apply Ef hT hP
  all_goals first
   |exact of_decide_eq_true rfl
   |(exfalso;rename_i h;revert h;decide)
   |skip
  all_goals
   apply Exists.intro (_,_);refine And.intro ?_ (And.intro ?_ (Le.k [] [0,1] ?hh))
   case hh=>repeat' constructor
  all_goals first
   |(show(2-i64.wrap (1+1)).toNat<(2-(1:Int)).toNat
     decide)
   |skip
  all_goals
   refine hI (i64.wrap (1+1),_) rfl ?_;rw[←ho];clear ho;have mp:=Qpp hv' hr';have mi:=QtZ hv' hr';have ew1:i64.wrap (p-c)=p-c:=w64 (by omega) (by omega);have ew2:i64.wrap (p-c-1)=p-c-1:=w64 (by omega) (by omega);have ew3:i64.wrap (v*r)=v*r:=w64 (by omega) (by omega);have ew4:i64.wrap (64*r)=r*64:=by rw[w64 (by omega) (by omega),Int.mul_comm]
   have ew5:i64.wrap (r*64-w)=r*64-w:=w64 (by omega) (by omega);have ew6:i64.wrap (r*64-w-1)=r*64-w-1:=w64 (by omega) (by omega);clear hT hP hI mi;simp[ew1,ew2,ew3,ew4,ew5,ew6,mp,Qjh,QT,QU] at *
   first|omega|(simp[*];done)|(simp[*];omega)|skip
 ·subst ho
  repeat' first|(apply Ea;conv=>whnf)|apply Eb|apply Ec<;>intro _|apply Ed<;>intro _|apply Ee<;>intro _|apply Ef hT hP
  all_goals first
   |exact of_decide_eq_true rfl
   |(exfalso;rename_i h;revert h;decide)
   |(refine .k [] [] _ rfl (Qd ?_)
     rw[hA,hB];rfl)
   |skip
abbrev Qv:Ty:=.pair (.int .i64) (.pair (.int .i64) (.pair (.int .i64) (.int .i64)))
abbrev Qs:Ty:=.pair (.int .i64) (.pair (.int .i64) (.pair (.int .i64) (.sl Qv)))
abbrev QaA:Ty:=.pair (.int .i64) (.pair .str (.pair (.int .i64) (.sl Qs)))
abbrev QCz:Ty:=.pair .str (.pair (.sl QaA) (.pair (.sl Qs) (.pair (.sl Qs) (.sl Qs))))
abbrev QCA:Ty:=.pair (.ints .i64 9) (.pair (.int .i64) (.pair (.int .i64) .bool))
abbrev gR:Sig:=⟨true,.ints .i64 9⟩
abbrev Qx5:Sig:=⟨true,QCz⟩
abbrev gK:Sig:=⟨true,QCA⟩
abbrev gB:Sig:=⟨false,.bool⟩
abbrev Stp:=Int×Int×Int×Int
abbrev Cyc:=Int×Int×Int×List Stp
abbrev Ins:=Int×ByteArray×Int×List Cyc
abbrev Cpu:=ByteArray×List Ins×List Cyc×List Cyc×List Cyc
abbrev Kor:=List Int×Int×Int×Bool
theorem Qk0(x:Int):i64.wrap x=(x+9223372036854775808)%18446744073709551616-9223372036854775808:=by
 rw[IntKind.wrap_i64]
theorem QL{k:Nat}(h:k≤4611686018427387904):i64.wrap ((k:Int)+1)=((k+1:Nat):Int):=by
 rw[w64 (by omega) (by omega)];omega
theorem Quj(x k:Int):x.tmod k=if 0≤x then x%k else -((-x)%k):=by
 split
 ·rename_i h;exact Int.tmod_eq_emod_of_nonneg h
 ·rename_i h;have:=Int.neg_tmod (-x) k;rw[Int.neg_neg] at this;rw[this,Int.tmod_eq_emod_of_nonneg (by omega)]
theorem QCB(x k:Int):x.tdiv k=if 0≤x then x/k else -((-x)/k):=by
 split
 ·rename_i h;exact Int.tdiv_eq_ediv_of_nonneg h
 ·rename_i h;have:=Int.neg_tdiv (-x) k;rw[Int.neg_neg] at this;rw[this,Int.tdiv_eq_ediv_of_nonneg (by omega)]
def QE(l:List Int):List Int:=[l.getD 0 0%256,l.getD 1 0%256,l.getD 2 0%256,l.getD 3 0%256,l.getD 4 0%256,l.getD 5 0%256,l.getD 6 0%256,l.getD 7 0%65536,l.getD 8 0%65536]
theorem nine{l:List Int}(h:l.length=9):∃a b c d e f g h i,l=[a,b,c,d,e,f,g,h,i]:=by
 match l,h with
 | [a,b,c,d,e,f,g,h,i],_=>exact⟨a,b,c,d,e,f,g,h,i,rfl⟩
theorem QJM{l l':List Int}(h:l=l'):AV.agg [.run .i64 9 l]=AV.agg [.run .i64 9 l']:=by rw[h]
def Q5(r:Int):Bool:=decide (r=7∨r=8)
def QO(r:Int):Bool:=decide (0≤r∧r≤6)
def Qx6:PSpec:=⟨[gi],fun(r,_)=>(none,.cell (bv (Q5 r)),[])⟩
def Quk:PSpec:=⟨[gi],fun(r,_)=>(none,.cell (bv (QO r)),[])⟩
theorem QfH:G0 250 Qx6.spec:=by
 have hP:S0 _:=(Qb (T:=tree))
 have hT:=tabs hP Qc;refine Qx6.gd hT hP Tryz.func250 fun(r:Int) _=>?_
 repeat' first|(apply Ea;conv=>whnf)|apply Eb|apply Ec<;>intro _|apply Ed<;>intro _|apply Ee<;>intro _|apply Ef hT hP|apply Eg hT hP
 all_goals
  refine .k [] [] _ rfl (Qi ?_);show _=Q5 r
  simp_all [Q5]<;>first|rfl|omega
theorem QD:G0 140 Qx6.spec:=by
 have hP:S0 _:=(Qb (T:=tree))
 have hT:=tabs hP Qc;refine Qx6.gd hT hP Tryz.func140 fun(r:Int) _=>?_
 repeat' first|(apply Ea;conv=>whnf)|apply Eb|apply Ec<;>intro _|apply Ed<;>intro _|apply Ee<;>intro _|apply Ef hT hP|apply Eg hT hP
 all_goals
  refine .k [] [] _ rfl (Qi ?_);show _=Q5 r
  simp_all [Q5]<;>first|rfl|omega
theorem Qp:G0 139 Quk.spec:=by
 have hP:S0 _:=(Qb (T:=tree))
 have hT:=tabs hP Qc;refine Quk.gd hT hP Tryz.func139 fun(r:Int) _=>?_
 repeat' first|(apply Ea;conv=>whnf)|apply Eb|apply Ec<;>intro _|apply Ed<;>intro _|apply Ee<;>intro _|apply Ef hT hP|apply Eg hT hP
 all_goals
  refine .k [] [] _ rfl (Qi ?_);show _=QO r
  simp_all [QO]<;>first|rfl|omega
def QAx:PSpec:=⟨[gi],fun(r,_)=>(none,I (cond (Q5 r) 16 8),[])⟩
theorem Qpw:G0 244 QAx.spec:=by
 have hP:S0 _:=Qa QfH (Qb (T:=tree));have hT:=tabs hP Qc;refine QAx.gd hT hP Tryz.func244 fun(r:Int) _=>?_
 repeat' first|(apply Ea;conv=>whnf)|apply Eb|apply Ec<;>intro _|apply Ed<;>intro _|apply Ee<;>intro _|apply Ef hT hP|apply Eg hT hP
 ·rename_i h;refine .k [] [] _ rfl (Qd ?_);show _=cond (Q5 r) 16 8;rw[show Q5 r=true from decide_eq_true h];rfl
 ·rename_i h;refine .k [] [] _ rfl (Qd ?_);show _=cond (Q5 r) 16 8;rw[show Q5 r=false from decide_eq_false h];rfl
def QG5:PSpec:=⟨[gR],fun(l,_)=>(some (List.length l=9),.agg [.run .i64 9 (QE l)],[])⟩
theorem Qnu:G0 207 QG5.spec:=by
 have hP:S0 _:=Qa Qpw (Qa QN (Qb (T:=tree)));have hT:=tabs hP Qc;refine QG5.gd hT hP Tryz.func207 fun(l:List Int) hp=>?_
 have hp:l.length=9:=hp _ rfl;obtain⟨a,b,c,d,e,f,g,h,i,rfl⟩:=nine hp
 repeat' first|(apply Ea;conv=>whnf)|apply Eb|apply Ec<;>intro _|apply Ed<;>intro _|apply Ee<;>intro _|apply Ef hT hP|apply Eg hT hP
 refine QX 10 ?_
 repeat' first|(apply Ea;conv=>whnf)|apply Eb|apply Ec<;>intro _|apply Ed<;>intro _|apply Ee<;>intro _|apply Ef hT hP|apply Eg hT hP
 all_goals first
  |exact of_decide_eq_true rfl
  |exact .k [] [] _ R R
theorem Qkj:G0 137 QG5.spec:=by
 have hP:S0 _:=Qa QD (Qa Qco (Qb (T:=tree)));have hT:=tabs hP Qc;refine QG5.gd hT hP Tryz.func137 fun(l:List Int) hp=>?_
 have hp:l.length=9:=hp _ rfl;obtain⟨a,b,c,d,e,f,g,h,i,rfl⟩:=nine hp
 repeat' first|(apply Ea;conv=>whnf)|apply Eb|apply Ec<;>intro _|apply Ed<;>intro _|apply Ee<;>intro _|apply Ef hT hP|apply Eg hT hP
 refine QX 10 ?_
 repeat' first|(apply Ea;conv=>whnf)|apply Eb|apply Ec<;>intro _|apply Ed<;>intro _|apply Ee<;>intro _|apply Ef hT hP|apply Eg hT hP
 all_goals first
  |exact of_decide_eq_true rfl
  |exact .k [] [] _ R R
def QG6(a:Int):Int:=([65534,65535,65530,65531,65532,65533]:List Int).getD (a-6).toNat 0
def plA(a:Int)(r:List Int):Int :=
 if a=0∨a=1 then r.getD 7 0 else if a=2 then r.getD 8 0 else if a=3 then (r.getD 8 0+1)%65536 else if a=4 then 256+r.getD 3 0 else if a=5 then 256+(r.getD 3 0+1)%256
 else if a<0∨a≥12 then 0 else QG6 a
def plR(a:Int)(r:List Int):List Int :=
 if a=0 then r.set 7 ((r.getD 7 0+1)%65536) else if a=4 then r.set 3 ((r.getD 3 0-1)%256) else if a=5 then r.set 3 ((r.getD 3 0+1)%256) else r
theorem QJN{x y:Int}{l l':List Int}(h:x=y)(h2:l=l'):AV.tup [I1 x,.agg [.run .i64 9 l]]=AV.tup [I1 y,.agg [.run .i64 9 l']]:=by rw[h,h2]
def QJO:PSpec:=⟨[gi],fun(a,_)=>(some (6≤a∧a<12),I (QG6 a),[])⟩
theorem QFc:G0 245 QJO.spec:=by
 have hP:S0 _:=(Qb (T:=tree))
 have hT:=tabs hP Qc;refine QJO.gd hT hP Tryz.func245 fun(a:Int) hp=>?_
 have hp:6≤a∧a<12:=hp _ rfl;have e:i64.wrap (a-6)=a-6:=w64 (by omega) (by omega)
 repeat' first|(apply Ea;conv=>whnf)|apply Eb|apply Ec<;>intro _|apply Ed<;>intro _|apply Ee<;>intro _|apply Ef hT hP|apply Eg hT hP
 ·rw[e];show 0≤a-6∧a-6<6;omega
 ·rw[e];show(a-6).toNat<6;omega
 ·refine .k [] [] _ rfl (Qd ?_);rw[e];rfl
def Qul:PSpec:=⟨[gi,gR],fun(a,r,_)=>(some (∃q,r=QE q),.tup [I1 (plA a r),.agg [.run .i64 9 (plR a r)]],[])⟩
theorem Qum:G0 209 Qul.spec:=by
 have hP:S0 _:=Qa QN (Qa QFc (Qb (T:=tree)));have hT:=tabs hP Qc;refine Qul.gd hT hP Tryz.func209 fun(a:Int) (r:List Int) hp=>?_
 obtain⟨q,rfl⟩:∃q,r=QE q:=hp _ rfl
 repeat' first|(apply Ea;conv=>whnf)|apply Eb|apply Ec<;>intro _|apply Ed<;>intro _|apply Ee<;>intro _|apply Ef hT hP|apply Eg hT hP
 all_goals first
  |exact of_decide_eq_true rfl
  |omega
  |skip
 all_goals(try refine .k [] [] _ rfl (QJN ?_ ?_))
 all_goals(try(dsimp only[gi,Den] at *;omega))
 all_goals clear hp
 all_goals(try simp_all [plA,plR,QE,Qk0])
 all_goals(try omega)
 all_goals(try(simp only[Quj];split<;>omega))
def QFd:PSpec:=⟨[gi,gR],fun(a,r,_)=>(some (∃q,r=QE q),.tup [I1 (plA a r),.agg [.run .i64 9 (plR a r)]],[])⟩
theorem Qx7:G0 141 QFd.spec:=by
 have hP:S0 _:=Qa Qkj (Qb (T:=tree));have hT:=tabs hP Qc;refine QFd.gd hT hP Tryz.func141 fun(a:Int) (r:List Int) hp=>?_
 obtain⟨q,rfl⟩:∃q,r=QE q:=hp _ rfl
 repeat' first|(apply Ea;conv=>whnf)|apply Eb|apply Ec<;>intro _|apply Ed<;>intro _|apply Ee<;>intro _|apply Ef hT hP|apply Eg hT hP
 all_goals first
  |exact of_decide_eq_true rfl
  |exact rfl
  |skip
 all_goals(try refine .k [] [] _ rfl (QJN ?_ ?_))
 all_goals(try(dsimp only[gi,Den] at *;omega))
 all_goals clear hp
 all_goals(try simp_all [plA,plR,QE,Qk0,QG6])
 all_goals(try omega)
 all_goals(try(simp only[Quj];split<;>omega))
def QFe(op:Int)(x:Ins):Bool:=decide (x.1=op∧0≤op∧op≤255)
def QP(c:Cpu)(op:Int):List Cyc :=
 if op=256 then c.2.2.2.1 else if op=257 then c.2.2.2.2 else if op=258 then c.2.2.1 else match c.2.1.find? (QFe op) with|some x=>x.2.2.2|none=>[]
theorem Qun{α:Type}{l:List α}{p:α→Bool}{k:Nat}(d:α)(h0:(l.take k).find? p=none)(h:k<l.length)(hp:p (l.getD k d)=true):l.find? p=some (l.getD k d):=by
 have e:l=l.take k++l.drop k:=(List.take_append_drop k l).symm
 have e2:l.drop k=l.getD k d::l.drop (k+1):=by
  rw[List.drop_eq_getElem_cons h];simp[h]
 have:(l.take k++l.drop k).find? p=some (l.getD k d):=by
  rw[List.find?_append,h0,e2,List.find?_cons,hp];rfl
 rwa[List.take_append_drop] at this
theorem Qda{α:Type}{l:List α}{p:α→Bool}{k:Nat}(d:α)(h0:(l.take k).find? p=none)(h:k<l.length)(hp:p (l.getD k d)=false):(l.take (k+1)).find? p=none:=by
 have e2:l.getD k d=l[k]:=by simp[h]
 rw[e2] at hp;rw[List.take_succ_eq_append_getElem h,List.find?_append,h0];simp[hp]
theorem Qpx{α:Type}{l:List α}{p:α→Bool}{k:Nat}(h0:(l.take k).find? p=none)(h:l.length≤k):l.find? p=none:=by
 rwa[List.take_of_length_le h] at h0
def QG7:PSpec:=⟨[Qx5,gi],fun(c,op,_)=>(some (List.length c.2.1≤4611686018427387904),.cell (.ro Qs (QP c op)),[])⟩
theorem Quo:G0 214 QG7.spec:=by
 have hP:S0 _:=(Qb (T:=tree))
 have hT:=tabs hP Qc;refine QG7.gd hT hP Tryz.func214 fun(c:Cpu) (op:Int) hp=>?_
 obtain⟨cn,ci,cr,cq,cm⟩:=c;have hp:ci.length≤4611686018427387904:=hp _ rfl
 repeat' first|(apply Ea;conv=>whnf)|apply Eb|apply Ec<;>intro _|apply Ed<;>intro _|apply Ee<;>intro _|apply Ef hT hP|apply Eg hT hP
 ·rename_i h;refine .k [] [] _ rfl (QiJ ?_)
  simp_all [QP]
 ·rename_i h;refine .k [] [] _ rfl (QiJ ?_)
  simp_all [QP]
 ·rename_i h;refine .k [] [] _ rfl (QiJ ?_)
  simp_all [QP]
 rename_i n1 n2 n3;have n1:¬op=256:=n1;have n2:¬op=257:=n2;have n3:¬op=258:=n3
 have hF:QP (cn,ci,cr,cq,cm) op=match ci.find? (QFe op) with|some x=>x.2.2.2|none=>[]:=by
  unfold QP;rw[if_neg n1,if_neg n2,if_neg n3]
 refine QH hT hP (A:=Unit) ci.length (fun i _=>St.mk (E1 ((I op)::E10 (E5 (E3 (E1 ((.cell (.ro QaA ci))::(I ci.length)::(I i)::E10 (E5 (E3 [])))))))) [])
  (fun k _=>(ci.take k).find? (QFe op)=none) () (Le.mk [] [] R R R ?_) (by simp) fun k _ hk hi=>?_
 rotate_right
 repeat' first|(apply Ea;conv=>whnf)|apply Eb|apply Ec<;>intro _|apply Ed<;>intro _|apply Ee<;>intro _|apply Ef hT hP|apply Eg hT hP
 all_goals(try(dsimp only[gi,Den] at *;omega))
 ·rename_i g1 g2 g3 g4;have hlt:k<ci.length:=by omega
  refine .k [] [] _ rfl (QiJ ?_);show _=QP (cn,ci,cr,cq,cm) op;rw[hF,Qun (dflt QaA) hi hlt (decide_eq_true ⟨g2,g3,g4⟩)];rfl
 ·rename_i g1 g2 g3 g4;have hlt:k<ci.length:=by omega
  apply Ex () [] []
  ·repeat' constructor
  ·omega
  ·exact QL (by omega)
  exact Qda (dflt QaA) hi hlt (decide_eq_false fun h=>g4 h.2.2)
 ·rename_i g1 g2 g3;have hlt:k<ci.length:=by omega
  apply Ex () [] []
  ·repeat' constructor
  ·omega
  ·exact QL (by omega)
  exact Qda (dflt QaA) hi hlt (decide_eq_false fun h=>g3 h.2.1)
 ·rename_i g1 g2;have hlt:k<ci.length:=by omega
  apply Ex () [] []
  ·repeat' constructor
  ·omega
  ·exact QL (by omega)
  exact Qda (dflt QaA) hi hlt (decide_eq_false fun h=>g2 h.1)
 ·rename_i g1;refine .le (Le.nilro 4 Qs rfl) (.k [] [] _ rfl (QiJ ?_));show _=QP (cn,ci,cr,cq,cm) op;rw[hF,Qpx hi (by omega)]
 ·repeat' constructor
theorem Qpy:G0 138 QG7.spec:=by
 have hP:S0 _:=(Qb (T:=tree))
 have hT:=tabs hP Qc;refine QG7.gd hT hP Tryz.func138 fun(c:Cpu) (op:Int) hp=>?_
 obtain⟨cn,ci,cr,cq,cm⟩:=c;have hp:ci.length≤4611686018427387904:=hp _ rfl
 repeat' first|(apply Ea;conv=>whnf)|apply Eb|apply Ec<;>intro _|apply Ed<;>intro _|apply Ee<;>intro _|apply Ef hT hP|apply Eg hT hP
 ·rename_i h;refine .k [] [] _ rfl (QiJ ?_)
  simp_all [QP]
 ·rename_i h;refine .k [] [] _ rfl (QiJ ?_)
  simp_all [QP]
 ·rename_i h;refine .k [] [] _ rfl (QiJ ?_)
  simp_all [QP]
 rename_i n1 n2 n3;have n1:¬op=256:=n1;have n2:¬op=257:=n2;have n3:¬op=258:=n3
 have hF:QP (cn,ci,cr,cq,cm) op=match ci.find? (QFe op) with|some x=>x.2.2.2|none=>[]:=by
  unfold QP;rw[if_neg n1,if_neg n2,if_neg n3]
 refine QH hT hP (A:=Unit) ci.length (fun i _=>St.mk (E1 ((I op)::(.cell (.ptr 0 0))::E10 (E5 (E3 ((I ci.length)::(I i)::E20 (E5 [])))))) [some (.var [.imm (.string cn),.ro QaA ci,.ro Qs cr,.ro Qs cq,.ro Qs cm])])
  (fun k _=>(ci.take k).find? (QFe op)=none) () (Le.mk [] [0] R R R ?_) (by simp) fun k _ hk hi=>?_
 rotate_right
 repeat' first|(apply Ea;conv=>whnf)|apply Eb|apply Ec<;>intro _|apply Ed<;>intro _|apply Ee<;>intro _|apply Ef hT hP|apply Eg hT hP
 all_goals(try(dsimp only[gi,Den] at *;omega))
 ·rename_i g1 g2 g3 g4;have hlt:k<ci.length:=by omega
  refine .k [] [] _ rfl (QiJ ?_);show _=QP (cn,ci,cr,cq,cm) op;rw[hF,Qun (dflt QaA) hi hlt (decide_eq_true ⟨g2,g3,g4⟩)];rfl
 ·rename_i g1 g2 g3 g4;have hlt:k<ci.length:=by omega
  apply Ex () [] [0]
  ·repeat' constructor
  ·omega
  ·exact QL (by omega)
  exact Qda (dflt QaA) hi hlt (decide_eq_false fun h=>g4 h.2.2)
 ·rename_i g1 g2 g3;have hlt:k<ci.length:=by omega
  apply Ex () [] [0]
  ·repeat' constructor
  ·omega
  ·exact QL (by omega)
  exact Qda (dflt QaA) hi hlt (decide_eq_false fun h=>g3 h.2.1)
 ·rename_i g1 g2;have hlt:k<ci.length:=by omega
  apply Ex () [] [0]
  ·repeat' constructor
  ·omega
  ·exact QL (by omega)
  exact Qda (dflt QaA) hi hlt (decide_eq_false fun h=>g2 h.1)
 ·rename_i g1;refine .le (Le.nilro 4 Qs rfl) (.k [] [] _ rfl (QiJ ?_));show _=QP (cn,ci,cr,cq,cm) op;rw[hF,Qpx hi (by omega)]
 ·repeat' constructor
def Qay:Cyc:=(0,0,0,[])
def Qfc(c:Cpu)(op at_:Int):Bool:=!decide (op=-1)&&(decide (0≤at_)&&decide (at_<(QP c op).length))
def doF(c:Cpu)(op at_:Int):Cyc:=if Qfc c op at_ then (QP c op).getD at_.toNat Qay else Qay
theorem Qx8{a b c:Int}{l:List Stp}{o:Bool}{x:Cyc}{o':Bool}(h:(a,b,c,l)=x)(h2:o=o'):AV.tup [.agg [iv .i64 a,iv .i64 b,iv .i64 c,.ro Qv l],.c (bv o)]=AV.tup [.agg [iv .i64 x.1,iv .i64 x.2.1,iv .i64 x.2.2.1,.ro Qv x.2.2.2],.c (bv o')]:=by subst h;subst h2;rfl
def QAy:PSpec:=⟨[Qx5,gK],fun(c,k,_)=>(some (List.length c.2.1≤4611686018427387904),.tup [.agg [iv .i64 (doF c k.2.1 k.2.2.1).1,iv .i64 (doF c k.2.1 k.2.2.1).2.1,iv .i64 (doF c k.2.1 k.2.2.1).2.2.1,.ro Qv (doF c k.2.1 k.2.2.1).2.2.2],.c (bv (Qfc c k.2.1 k.2.2.1))],[])⟩
theorem Qpz:G0 210 QAy.spec:=by
 have hP:S0 _:=Qa Quo (Qb (T:=tree));have hT:=tabs hP Qc;refine QAy.gd hT hP Tryz.func210 fun(c:Cpu) (k:Kor) hp=>?_
 obtain⟨cn,ci,cr,cq,cm⟩:=c;obtain⟨r,op,at_,n⟩:=k;have hp:ci.length≤4611686018427387904:=hp _ rfl
 repeat' first|(apply Ea;conv=>whnf)|apply Eb|apply Ec<;>intro _|apply Ed<;>intro _|apply Ee<;>intro _|apply Ef hT hP|apply Eg hT hP
 all_goals(try(dsimp only[gi,Den] at *;omega))
 ·exact hp
 ·rename_i g;have g:op=-1:=g;have hc:Qfc (cn,ci,cr,cq,cm) op at_=false:=by unfold Qfc;rw[decide_eq_true g];rfl
  refine .le (Le.nilroH 2 _ [iv .i64 0,iv .i64 0,iv .i64 0,.ro Qv []] rfl ⟨.inl rfl,.inl rfl,.inl rfl,.inr ⟨rfl,_,rfl⟩,trivial⟩) (.k [] [] _ rfl (Qx8 ?_ hc.symm));show Qay=doF _ _ _;unfold doF;rw[if_neg (by rw[hc];decide)]
 ·rename_i g g2;have g2:at_<0:=g2;have hc:Qfc (cn,ci,cr,cq,cm) op at_=false:=by unfold Qfc;rw[decide_eq_false (show¬0≤at_ by omega)];simp
  refine .le (Le.nilroH 2 _ [iv .i64 0,iv .i64 0,iv .i64 0,.ro Qv []] rfl ⟨.inl rfl,.inl rfl,.inl rfl,.inr ⟨rfl,_,rfl⟩,trivial⟩) (.k [] [] _ rfl (Qx8 ?_ hc.symm));show Qay=doF _ _ _;unfold doF;rw[if_neg (by rw[hc];decide)]
 ·rename_i g g2 g3;have g3:at_≥((QP (cn,ci,cr,cq,cm) op).length:Int):=g3;have hc:Qfc (cn,ci,cr,cq,cm) op at_=false:=by unfold Qfc;rw[decide_eq_false (show¬at_<((QP (cn,ci,cr,cq,cm) op).length:Int) by omega)];simp
  refine .le (Le.nilroH 2 _ [iv .i64 0,iv .i64 0,iv .i64 0,.ro Qv []] rfl ⟨.inl rfl,.inl rfl,.inl rfl,.inr ⟨rfl,_,rfl⟩,trivial⟩) (.k [] [] _ rfl (Qx8 ?_ hc.symm));show Qay=doF _ _ _;unfold doF;rw[if_neg (by rw[hc];decide)]
 ·rename_i g g2 g3;have g:¬op=-1:=g;have g2:¬at_<0:=g2;have g3:¬at_≥((QP (cn,ci,cr,cq,cm) op).length:Int):=g3;have hc:Qfc (cn,ci,cr,cq,cm) op at_=true:=by unfold Qfc;rw[decide_eq_false g,decide_eq_true (show 0≤at_ by omega),decide_eq_true (show at_<((QP (cn,ci,cr,cq,cm) op).length:Int) by omega)];rfl
  refine .k [] [] _ rfl (Qx8 ?_ hc.symm);unfold doF;rw[if_pos hc];rfl
theorem Qd4(p:Int→Prop)[DecidablePred p](h:∀n:Fin 256,p (n.val:Int))(x:Int)(h1:0≤x)(h2:x<256):p x:=by
 have:=h ⟨x.toNat,by omega⟩;have e:((x.toNat:Nat):Int)=x:=by omega
 simpa[e] using this
theorem QIW:∀x:Int,0≤x→x<256→(decide (land .i64 x 4=0))=decide (x/4%2=0):=Qd4 (fun x=>(decide (land .i64 x 4=0))=decide (x/4%2=0)) (by decide +kernel)
def Qbh(c:Cpu)(k:Kor)(irq:Bool):Kor :=
 if (k.2.2.2&&decide (0<c.2.2.2.2.length))=true then (k.1,257,0,false) else if (irq&&(decide (k.1.getD 4 0/4%2=0)&&decide (0<c.2.2.2.1.length)))=true then (k.1,256,0,k.2.2.2) else k
theorem QpA{r:List Int}{a b:Int}{n:Bool}{x:Kor}(h:(r,a,b,n)=x):AV.agg [.run .i64 9 r,iv .i64 a,iv .i64 b,bv n]=AV.agg [.run .i64 9 x.1,iv .i64 x.2.1,iv .i64 x.2.2.1,bv x.2.2.2]:=by subst h;rfl
def QAz:PSpec:=⟨[Qx5,gK,gB],fun(c,k,i,_)=>(some (List.length c.2.1≤4611686018427387904∧∃q,k.1=QE q),.agg [.run .i64 9 (Qbh c k i).1,iv .i64 (Qbh c k i).2.1,iv .i64 (Qbh c k i).2.2.1,bv (Qbh c k i).2.2.2],[])⟩
theorem Qx9:G0 208 QAz.spec:=by
 have hP:S0 _:=Qa Quo (Qb (T:=tree));have hT:=tabs hP Qc;refine QAz.gd hT hP Tryz.func208 fun(c:Cpu) (k:Kor) (i:Bool) hp=>?_
 obtain⟨cn,ci,cr,cq,cm⟩:=c;obtain⟨r,op,at_,n⟩:=k;obtain⟨hz,q,rfl⟩:ci.length≤4611686018427387904∧∃q,r=QE q:=hp _ rfl;clear hp
 have hl:land .i64 (q.getD 4 0%256) 4=0↔q.getD 4 0%256/4%2=0:=by
  have:=QIW (q.getD 4 0%256) (by omega) (by omega);simpa using this
 repeat' first|(apply Ea;conv=>whnf)|apply Eb|apply Ec<;>intro _|apply Ed<;>intro _|apply Ee<;>intro _|apply Ef hT hP|apply Eg hT hP
 refine QX 3 ?_
 repeat' first|(apply Ea;conv=>whnf)|apply Eb|apply Ec<;>intro _|apply Ed<;>intro _|apply Ee<;>intro _|apply Ef hT hP|apply Eg hT hP
 all_goals first
  |exact of_decide_eq_true rfl
  |exact hz
  |skip
 all_goals(try refine .k [] [] _ rfl (QpA ?_))
 all_goals(simp only[Qf] at *)
 all_goals(try simp_all [Qbh,QE,QP,Qk0])
 all_goals trace_state
set_option linter.constructorNameAsVariable false
abbrev Qya:Sig:=⟨false,.str⟩
def QiN(c:Int):Bool:=decide ((97≤c∧c≤122)∨(48≤c∧c≤57)∨c=45)
def QaF(l:List Int):Bool:=decide (l.length≠0∧l.length≤20∧97≤l.getD 0 0∧l.getD 0 0≤122)&&l.all QiN
theorem Ql7(s:ByteArray):(bytesOf s).length=s.size:=by
 unfold bytesOf;rw[List.length_map,Array.length_toList];rfl
theorem Qh4(s:ByteArray)(i:Nat):Qfg s i=(bytesOf s).getD i 0:=by
 unfold Qfg bytesOf;rw[List.getD_eq_getElem?_getD,List.getD_eq_getElem?_getD,List.getElem?_map];cases s.data.toList[i]?<;>rfl
theorem Qg0(s:ByteArray):∀c∈bytesOf s,0≤c∧c<256:=by
 intro c hc;unfold bytesOf at hc;obtain⟨b,_,rfl⟩:=List.mem_map.1 hc;have:=b.toNat_lt;omega
theorem Qup{s:ByteArray}:Qm s ⟨#[]⟩=decide ((bytesOf s).length=0):=by
 unfold Qm bytesOf;rw[ByteArray.toList_eq,ByteArray.toList_eq,List.length_map];cases s.data.toList with
 |nil=>rfl
 |cons a r=>rfl
theorem Qe2{l:List Int}(h:l.length=0∨l.length>20∨l.getD 0 0<97∨l.getD 0 0>122∨l.all QiN=false):QaF l=false:=by
 unfold QaF;by_cases h2:l.all QiN=false
 ·rw[h2,Bool.and_false]
 ·rw[decide_eq_false (by rcases h with h|h|h|h|h<;>first|omega|exact absurd h h2),Bool.false_and]
theorem QpB{l:List Int}{k:Nat}(h:k<l.length)(h1:(l.take k).all QiN=true)(h2:QiN (l.getD k 0)=true):(l.take (k+1)).all QiN=true:=by
 rw[List.getD_eq_getElem?_getD,List.getElem?_eq_getElem h] at h2;rw[List.take_add_one,List.all_append,h1,List.getElem?_eq_getElem h];simpa using h2
theorem QAA{l:List Int}{k:Nat}(h:k<l.length)(h2:QiN (l.getD k 0)=false):l.all QiN=false:=by
 rw[List.getD_eq_getElem?_getD,List.getElem?_eq_getElem h] at h2;rw[←Bool.not_eq_true];intro e;have:=List.all_eq_true.1 e _ (List.getElem_mem h);have h2:QiN l[k]=false:=h2;rw[h2] at this;cases this
def Qyb:PSpec:=⟨[Qya],fun(s,_)=>(none,.cell (bv (QaF (bytesOf s))),[])⟩
theorem QfI:G0 100 Qyb.spec:=by
 have hP:S0 _:=(Qb (T:=tree))
 have hT:=tabs hP Qc;refine Qyb.gd hT hP Tryz.func100 fun(s:ByteArray) _=>?_
 repeat' first|(apply Ea;conv=>whnf)|apply Eb|apply Ec<;>intro _|apply Ed<;>intro _|apply Ee<;>intro _|apply Ef hT hP
 all_goals first
  |exact of_decide_eq_true rfl
  |skip
 all_goals(have hL:=Ql7 s)
 all_goals(simp only[Qup,Qh4] at *)
 all_goals(have h0:Int.toNat 0=0:=rfl)
 all_goals(try simp only[h0] at *)
 all_goals first
  |(rename_i h
    have h:=of_decide_eq_true h
    exact .k [] [] _ rfl (Qi (Qe2 (.inl h)).symm))
  |(have h:(s.size:Int)>20:=by assumption
    refine .k [] [] _ rfl (Qi (Qe2 (.inr (.inl ?_))).symm);rw[hL]
    omega)
  |(have h1:decide ((bytesOf s).length=0)=false:=by assumption
    have h1:=of_decide_eq_false h1;show 0≤(0:Int)∧(0:Int)<(s.size:Int)
    omega)
  |(rename_i h
    exact .k [] [] _ rfl (Qi (Qe2 (.inr (.inr (.inl h)))).symm))
  |(rename_i h
    exact .k [] [] _ rfl (Qi (Qe2 (.inr (.inr (.inr (.inl h))))).symm))
  |skip
 have g1:decide ((bytesOf s).length=0)=false:=by assumption
 have g1:=of_decide_eq_false g1;have g2:¬(s.size:Int)>20:=by assumption
 have g3:¬(bytesOf s).getD 0 0<97:=by assumption
 have g4:¬(bytesOf s).getD 0 0>122:=by assumption
 have hF:QaF (bytesOf s)=(bytesOf s).all QiN:=by
  unfold QaF;rw[decide_eq_true ⟨g1,by omega,by omega,by omega⟩,Bool.true_and]
 refine QH hT hP (A:=Unit) (bytesOf s).length (fun i _=>St.mk (E20 (E3 ((.cell (.ro (.int .u8) (bytesOf s)))::(I ((bytesOf s).length:Int))::(I i)::E20 (E3 [])))) [])
  (fun k _=>((bytesOf s).take k).all QiN=true) () (Le.mk [] [] R R R ?_) (by simp) fun k _ hk hi=>?_
 ·repeat' constructor
 repeat' first|(apply Ea;conv=>whnf)|apply Eb|apply Ec<;>intro _|apply Ed<;>intro _|apply Ee<;>intro _|apply Ef hT hP
 all_goals
  have ec:List.getD (α:=Den (.int .u8)) (bytesOf s) ((k:Int)).toNat (dflt (.int .u8))=(bytesOf s).getD k 0:=rfl
  try simp only[ec] at *
  clear ec
 all_goals clear hT hP
 all_goals
  generalize hc:(bytesOf s).getD k 0=c at *
 all_goals(try simp only[cond_false,Bool.not_eq_true',Bool.not_eq_false',beq_iff_eq,beq_eq_false_iff_ne] at *)
 have hlen:(bytesOf s).length≤20:=by omega
 all_goals first
  |exact of_decide_eq_true rfl
  |(show 0≤(k:Int)∧(k:Int)<((bytesOf s).length:Int)
    omega)
  |(have hb:QiN c=false:=decide_eq_false (by omega)
    refine .k [] [] _ rfl (Qi ?_)
    rw[hF,QAA (k:=k) (by omega) (by rw[hc];exact hb)])
  |(have hb:QiN c=true:=decide_eq_true (by omega)
    apply Exists.intro;apply Exists.intro ();refine And.intro (And.intro ?lt (And.intro ?ei ?inv)) (Le.k [] [] ?hh)
    case hh=>repeat' constructor
    case lt=>omega
    case ei=>exact QL (by omega)
    case inv=>exact QpB (by omega) hi (by rw[hc];exact hb))
  |(refine .k [] [] _ rfl (Qi ?_)
    rw[hF];rw[List.take_of_length_le (by omega)] at hi
    exact hi.symm)
  |skip
 all_goals trace_state
abbrev gu8:Sig:=⟨false,.int .u8⟩
theorem Qyc(s:ByteArray)(c:Int)(w:World) :
 Calls Tryz.prog 118 #[.string s,.int .u8 c] w fun e w'=>e=.returned (.int .i64 (Lib.indexByte s.data.toList c.toNat.toUInt8))∧w'=w:=by
 have mixed:Tryz.prog.follows .mixedOrders=true:=mixed
 go_enter Tryz.func118,Tryz.ntmps118
 go_wp2
 rw[run_callFunc_extern Tryz.func200 (by kernel_rfl) (by kernel_rfl) (by kernel_rfl) (e:=Extern.BytealgIndexByte.indexByte) (by kernel_rfl),Lib.run_indexByteString];simp only[Result.andThen];rw[Oper.upon_value]
 go_wp2
 go_ret
 exact⟨rfl,rfl⟩
def Qyd:PSpec:=⟨[Qya,gu8],fun(s,c,_)=>(none,I (Lib.indexByte s.data.toList (Int.toNat c).toUInt8),[])⟩
theorem Quq:G0 118 Qyd.spec:=by
 refine PSpec.of_calls Tryz.func118 (by kernel_rfl) rfl Qyd (fun _=>rfl) fun E (s,c,_) vs hv _=>?_
 obtain⟨v1,r1,e1,⟨h1,_⟩,v2,r2,e2,⟨h2,_⟩,h3⟩:=hv;injection h1 with h1
 injection h2 with h2
 have h3:r2=[]:=h3
 have e:vs=#[.string s,.int .u8 c]:=by
  apply Array.ext';rw[e1,e2,h3,h1,h2]
 subst e;refine(Qyc s c E.w).mono ?_
 rintro e w' ⟨rfl,rfl⟩
 exact⟨⟨_,rfl,rfl,rfl⟩,rfl⟩
theorem QfJ:G0 64 Qyd.spec:=by
 have hP:S0 _:=Qa Quq (Qb (T:=tree));have hT:=tabs hP Qc;refine Qyd.gd hT hP Tryz.func64 fun(s:ByteArray) (c:Int) _=>?_
 repeat' first|(apply Ea;conv=>whnf)|apply Eb|apply Ec<;>intro _|apply Ed<;>intro _|apply Ee<;>intro _|apply Ef hT hP
 exact .k [] [] _ R R
def lets:List UInt8:=[97,98,99,100,101,102,103,104,105,106,107,108,109,110,111,112,113,114,115,116,117,118,119,120,121,122]
def Qye:List UInt8:=lets++[48,49,50,51,52,53,54,55,56,57,45]
theorem Qyf:(List.range 256).all (fun n=>decide (Lib.indexByte lets n.toUInt8<0) == !decide (97≤n∧n≤122))=true:=by decide +kernel
theorem Qur:(List.range 256).all (fun n=>decide (Lib.indexByte Qye n.toUInt8<0) == !QiN (n:Int))=true:=by decide +kernel
theorem Qus{c:Int}(h:0≤c∧c<256):decide (Lib.indexByte lets c.toNat.toUInt8<0)=!decide (97≤c∧c≤122):=by
 have:=List.all_eq_true.1 Qyf c.toNat (List.mem_range.2 (by omega));rw[beq_iff_eq] at this;rw[this];congr 1;by_cases h2:97≤c∧c≤122
 ·rw[decide_eq_true h2,decide_eq_true (by omega)]
 ·rw[decide_eq_false h2,decide_eq_false (by omega)]
theorem QpC{c:Int}(h:0≤c∧c<256):decide (Lib.indexByte Qye c.toNat.toUInt8<0)=!QiN c:=by
 have:=List.all_eq_true.1 Qur c.toNat (List.mem_range.2 (by omega));rw[beq_iff_eq] at this;rw[this];have:((c.toNat:Nat):Int)=c:=by omega
 rw[this]
theorem Qh5:G0 61 Qyb.spec:=by
 have hP:S0 _:=Qa QfJ (Qb (T:=tree));have hT:=tabs hP Qc;refine Qyb.gd hT hP Tryz.func61 fun(s:ByteArray) _=>?_
 have hL:=Ql7 s
 repeat' first|(apply Ea;conv=>whnf)|apply Eb|apply Ec<;>intro _|apply Ed<;>intro _|apply Ee<;>intro _|apply Ef hT hP
 ·rename_i h;have h:(s.size:Int)<1:=h;exact .k [] [] _ rfl (Qi (Qe2 (.inl (by omega))).symm)
 ·rename_i h;have h:(s.size:Int)>20:=h;exact .k [] [] _ rfl (Qi (Qe2 (.inr (.inl (by omega)))).symm)
 ·rename_i h _;have h:¬(s.size:Int)<1:=h;show 0≤(0:Int)∧(0:Int)<(s.size:Int);omega
 ·rename_i h1 h2 h3;have h1:¬(s.size:Int)<1:=h1;have hc:=Qg0 s ((bytesOf s).getD 0 0) (by rw[List.getD_eq_getElem?_getD,List.getElem?_eq_getElem (by omega)];exact List.getElem_mem _);have h3:Lib.indexByte lets (Qfg s 0).toNat.toUInt8<0:=h3;rw[Qh4] at h3;have e:=Qus hc;rw[decide_eq_true h3] at e
  have e:decide (97≤(bytesOf s).getD 0 0∧(bytesOf s).getD 0 0≤122)=false:=by
   cases hd:decide (97≤(bytesOf s).getD 0 0∧(bytesOf s).getD 0 0≤122) with
   |true=>rw[hd] at e;cases e
   |false=>rfl
  have e:=of_decide_eq_false e;exact .k [] [] _ rfl (Qi (Qe2 (by omega)).symm)
 rename_i h1 h2 h3;have h1:¬(s.size:Int)<1:=h1;have h2:¬(s.size:Int)>20:=h2;have hc0:=Qg0 s ((bytesOf s).getD 0 0) (by rw[List.getD_eq_getElem?_getD,List.getElem?_eq_getElem (by omega)];exact List.getElem_mem _);have h3:¬Lib.indexByte lets (Qfg s 0).toNat.toUInt8<0:=h3;rw[Qh4] at h3;have e:=Qus hc0;rw[decide_eq_false h3] at e
 have e:decide (97≤(bytesOf s).getD 0 0∧(bytesOf s).getD 0 0≤122)=true:=by
  cases hd:decide (97≤(bytesOf s).getD 0 0∧(bytesOf s).getD 0 0≤122) with
  |true=>rfl
  |false=>rw[hd] at e;cases e
 have e:=of_decide_eq_true e
 have hF:QaF (bytesOf s)=(bytesOf s).all QiN:=by
  unfold QaF;rw[decide_eq_true ⟨by omega,by omega,by omega,by omega⟩,Bool.true_and]
 refine QH hT hP (A:=Unit) (bytesOf s).length (fun i _=>St.mk ((.imm (.string s))::E10 (E5 (E3 ((I (s.size:Int))::(I i)::E5 (E3 []))))) [])
  (fun k _=>((bytesOf s).take k).all QiN=true) () (Le.mk [] [] R R R ?_) (by simp) fun k _ hk hi=>?_
 ·repeat' constructor
 repeat' first|(apply Ea;conv=>whnf)|apply Eb|apply Ec<;>intro _|apply Ed<;>intro _|apply Ee<;>intro _|apply Ef hT hP
 ·rename_i g1;have g1:(k:Int)<(s.size:Int):=g1;show 0≤(k:Int)∧(k:Int)<(s.size:Int);omega
 ·rename_i g1 g2;have g1:(k:Int)<(s.size:Int):=g1;have hk2:k<(bytesOf s).length:=by omega
  have hc:=Qg0 s ((bytesOf s).getD k 0) (by rw[List.getD_eq_getElem?_getD,List.getElem?_eq_getElem hk2];exact List.getElem_mem _);have g2:Lib.indexByte Qye (Qfg s k).toNat.toUInt8<0:=g2;rw[Qh4] at g2;have e:=QpC hc;rw[decide_eq_true g2] at e
  have e:QiN ((bytesOf s).getD k 0)=false:=by
   cases hd:QiN ((bytesOf s).getD k 0) with
   |true=>rw[hd] at e;cases e
   |false=>rfl
  refine .k [] [] _ rfl (Qi ?_);rw[hF,QAA hk2 e]
 ·rename_i g1 g2;have g1:(k:Int)<(s.size:Int):=g1;have hk2:k<(bytesOf s).length:=by omega
  have hc:=Qg0 s ((bytesOf s).getD k 0) (by rw[List.getD_eq_getElem?_getD,List.getElem?_eq_getElem hk2];exact List.getElem_mem _);have g2:¬Lib.indexByte Qye (Qfg s k).toNat.toUInt8<0:=g2;rw[Qh4] at g2;have e:=QpC hc;rw[decide_eq_false g2] at e
  have e:QiN ((bytesOf s).getD k 0)=true:=by
   cases hd:QiN ((bytesOf s).getD k 0) with
   |true=>rfl
   |false=>rw[hd] at e;cases e
  apply Ex () [] []
  ·repeat' constructor
  ·omega
  ·exact QL (by omega)
  exact QpB hk2 hi e
 ·rename_i g1;have g1:¬(k:Int)<(s.size:Int):=g1;refine .k [] [] _ rfl (Qi ?_);rw[hF];rw[List.take_of_length_le (by omega)] at hi;exact hi.symm
end Go.Proofs.YtofgbclopbmlcaaGreat

