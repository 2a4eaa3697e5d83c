/- Part 38 of the proof. Conditions: none. -/
import Derived.Test.YtofgbclopbmlcaaGreatG34
import Derived.Test.YtofgbclopbmlcaaGreatG16
import Derived.Test.YtofgbclopbmlcaaGreatG10
import Derived.Test.YtofgbclopbmlcaaGreatG32
import Derived.Test.YtofgbclopbmlcaaGreatG36
import Derived.Test.YtofgbclopbmlcaaGreatG20
import Derived.Test.YtofgbclopbmlcaaGreatG29
import Derived.Test.YtofgbclopbmlcaaGreatG22
import Derived.Test.YtofgbclopbmlcaaGreatG28
namespace Go.Proofs.YtofgbclopbmlcaaGreat
open Go.IntKind (i64)
set_option maxHeartbeats 8000000
open Go.Fw
set_option linter.unusedVariables false
set_option linter.unusedSimpArgs false
set_option linter.constructorNameAsVariable false
set_option maxRecDepth 100000
abbrev Qf0:Ty:=.pair .str (.int .i64)
theorem Qsq{l:List (Den Qf0×Den .bool)}{k k':Den Qf0}{v:Den .bool}:Qan (Qaw l k v) k'=if QD Qf0 k' k=true then some v else Qan l k':=by
 have N:∀{a b:Den Qf0},QD Qf0 a b=true↔a=b:=fun{a b}=>⟨fun h=>Qdw rfl h,fun h=>by rw[h];exact Qdl rfl⟩
 induction l with
 |nil =>
  show(match QD Qf0 k' k with|true=>some v|false=>none)=_;cases QD Qf0 k' k<;>rfl
 |cons p r ih =>
  obtain⟨pk,pv⟩:=p;by_cases h:QD Qf0 k pk=true
  ·have e:Qaw ((pk,pv)::r) k v=(k,v)::r:=by
    show(match QD Qf0 k pk with|true=>(k,v)::r|false=>(pk,pv)::Qaw r k v)=_;rw[h]
   rw[e];have G:=N.1 h;subst G;show(match QD Qf0 k' k with|true=>some v|false=>Qan r k')=if QD Qf0 k' k=true then some v else (match QD Qf0 k' k with|true=>some pv|false=>Qan r k')
   cases QD Qf0 k' k<;>rfl
  ·have H:QD Qf0 k pk=false:=by simpa using h
   have e:Qaw ((pk,pv)::r) k v=(pk,pv)::Qaw r k v:=by
    show(match QD Qf0 k pk with|true=>(k,v)::r|false=>(pk,pv)::Qaw r k v)=_;rw[H]
   rw[e];show(match QD Qf0 k' pk with|true=>some pv|false=>Qan (Qaw r k v) k')=if QD Qf0 k' k=true then some v else (match QD Qf0 k' pk with|true=>some pv|false=>Qan r k')
   rw[ih];by_cases u:QD Qf0 k' pk=true
   ·have q:¬QD Qf0 k' k=true:=fun h3=>h (by rw[←N.1 h3];exact u)
    rw[u];show some pv=if QD Qf0 k' k=true then some v else some pv
    rw[Yb q]
   ·have Z:QD Qf0 k' pk=false:=by simpa using u
    rw[Z]
theorem QN7(x:Int):(x != land .i64 x 255)=decide (x<0∨x>255):=by
 have e2:Qm2 x 8=land .i64 x 255:=by unfold Qm2;rw[show i64.wrap (shl .i64 1 (QaH 8)-1)=255 by decide]
 have e:land .i64 x 255=x%256:=by rw[←e2,Qki x 8 (by decide) (by decide)];rfl
 rw[e];rw[YI];simp;omega
def Qwk(M:List (Den Qf0×Den .bool))(l:List Ins):Prop:=∀x:Ins,QgV (Qan M (x.2.1,x.2.2.1)) false=l.any (Qi6 x)
theorem Qwl{x y:Ins}:Qi6 x y=true↔(x.2.1,x.2.2.1)=(y.2.1,y.2.2.1):=by
 unfold Qi6;have N:Qm y.2.1 x.2.1=true↔y.2.1=x.2.1:=Lib.bytes_beq_iff _ _;rw[YM];cases h:Qm y.2.1 x.2.1 with
 |true =>
  show decide (y.2.2.1=x.2.2.1)=true↔_;rw[YB];have:=N.1 h;exact⟨fun q=>⟨this.symm,q.symm⟩,fun q=>q.2.symm⟩
 |false =>
  show false=true↔_;exact⟨fun q=>(by cases q),fun q=>(by have:=N.2 q.1.symm;rw[h] at this;cases this)⟩
theorem Qqz{M:List (Den Qf0×Den .bool)}{l:List Ins}{k:Nat}{y:Ins}(h:Qwk M (l.take k))(G:k<l.length)(e:l.getD k (dflt Qap)=y):Qwk (Qaw M (y.2.1,y.2.2.1) true) (l.take (k+1)):=by
 intro x;rw[Qsq,Qbd (dflt Qap) G,e,List.any_append];have hd:QD Qf0 (x.2.1,x.2.2.1) (y.2.1,y.2.2.1)=true↔(x.2.1,x.2.2.1)=(y.2.1,y.2.2.1):=⟨fun h=>Qdw rfl h,fun h=>by rw[h];exact Qdl rfl⟩
 by_cases P:Qi6 x y=true
 ·rw[Yf (hd.2 (Qwl.1 P))];show true=_;simp[P]
 ·rw[Yb (fun q=>P (Qwl.2 (hd.1 q))),h x];have Y:Qi6 x y=false:=by simpa using P
  simp[Y]
theorem Qn4:G0 62 Qk2.spec:=by
 have D:S0 _:=Qa Qik (Qa QnO (Qa Qsm (Qb (T:=tree))));have F:=tabs D Qc;refine Qk2.gd F D Tryz.func62 fun(c:Cpu) _=>?_
 obtain⟨z,d,w,s,m⟩:=c
 repeat' first|(apply Ea;conv=>whnf)|apply Eb|apply Ec|apply Ed|apply Ee|(apply Ei;intro _)|apply Ef F D
 all_goals(try dsimp only[Qf] at *)
 ·rename_i g;have g:QaK (bytesOf z)=false:=by simpa using g
  refine .k [] [] _ rfl (Qd ?_);exact(Yf g:QdU (z,d,w,s,m)=15).symm
 ·rename_i g t;have g:QaK (bytesOf z)=true:=by simpa using g
  have t:(d.length:Int)>256:=t;refine .k [] [] _ rfl (Qd ?_);show 2=QdU (z,d,w,s,m);unfold QdU;rw[Yb (by rw[g];decide),Yf (by show d.length>256;omega)]
 rename_i f t;have f:QaK (bytesOf z)=true:=by simpa using f
 have hn:d.length≤256:=by have t:¬(d.length:Int)>256:=t;omega
 clear t
 have hC:∀e:Int,e≠0→QiJ d=e→e=QdU (z,d,w,s,m):=fun e H u=>by
  unfold QdU;rw[Yb (by rw[f];decide),Yb (by show¬d.length>256;omega),Yf (by rw[u];exact H)];exact u.symm
 have J:QiJ d=0→Qi8 (z,d,w,s,m)=QdU (z,d,w,s,m):=fun u=>by
  unfold QdU;rw[Yb (by rw[f];decide),Yb (by show¬d.length>256;omega),Yb (by rw[u];decide)]
 refine QA F D (A:=Int×List (Den Qf0×Den .bool)) d.length (fun i (a,M)=>St.mk (E1 ((.cell (.ptr 0 0))::E1 ((I a)::(.cell (.map 1))::E10 (E5 (E3 ((.cell (.ro Qap d))::(I d.length)::(I i)::E40 (E40 (E5 (E2 [])))))))))
  [some (.var [.imm (.string z),.ro Qap d,.ro Qp w,.ro Qp s,.ro Qp m]),some (.mp true Qf0 .bool M)])
  (fun k (a,M)=>Qab (Qso d) ((List.range d.length).drop k)=QiJ d∧Qwk M (d.take k)∧(0<k→a=(d.getD (k-1) (dflt Qap)).1)) (-1,[]) (Le.k [] [0,1] ?_) ⟨rfl,fun _=>rfl,fun h=>YD h (Nat.lt_irrefl _)⟩ fun k (a,M) G K=>?_
 ·repeat' constructor
 obtain⟨K,S,ha⟩:=K
 have L:∀e:Int,e≠0→Qso d k=e→k<d.length→e=QdU (z,d,w,s,m):=fun e H u G=>by
  refine hC e H ?_;have V:k<(List.range d.length).length:=by rw[YS];exact G
  have e1:=QcB G;rw[←K,QaM 0 V (by rw[e1,u];exact H),e1,u]
 have Q:Qso d k=0→k<d.length→Qab (Qso d) ((List.range d.length).drop (k+1))=QiJ d:=fun u G=>by
  have V:k<(List.range d.length).length:=by rw[YS];exact G
  rw[←K,Qa4 0 V (by rw[QcB G,u])]
 repeat' first|(apply Ea;conv=>whnf)|apply Eb|apply Ec|apply Ed|apply Ee|(apply Ei;intro _)|apply Ef F D
 all_goals(try dsimp only[Qf] at *)
 all_goals(generalize hx:d.getD (k:Int).toNat (dflt Qap)=x at *;obtain⟨xo,xs,xm,xc⟩:=x)
 all_goals(have C:d.getD k (dflt Qap)=(xo,xs,xm,xc):=hx)
 all_goals(have hI:Qso d k=Qwh (d.take k) k (d.getD (k-1) (dflt Qap)).1 (xo,xs,xm,xc):=by unfold Qso;rw[C])
 all_goals(rw[hI] at L Q)
 all_goals(generalize(d.getD (k-1) (dflt Qap)).1=pv at *)
 all_goals(try dsimp only at *)
 all_goals(have hL:QgV (Qan M (xs,xm)) (dflt .bool)=(d.take k).any (Qi6 (xo,xs,xm,xc)):=S (xo,xs,xm,xc))
 all_goals(try simp only[hL] at *)
 all_goals(try simp only[QN7,decide_eq_false_iff_not,YB] at *)
 ·show 0≤(k:Int)∧(k:Int)<(d.length:Int);omega
 all_goals first
  |exact .k [] [] _ rfl (Qd (L _ (Qc2 (x:=QB xc) (by assumption)) (Qqy (fun h=>by omega) (fun h=>by omega) (fun h=>by omega) (by assumption) (by assumption) (by assumption) (by assumption)) (by omega)))
  |(refine .k [] [] _ rfl (Qd (L _ ?_ ?_ (by omega)))
    ·decide
    ·clear F D L Q hC J K hx C hI S;simp[Qwh] at *
     try first
      |omega
      |(simp_all;done)
      |(simp_all;omega))
  |skip
 ·have B:k<d.length:=by omega
  have U:xc.length≤1000:=by
   have H:(QB xc != 0)=false:=by assumption
   have u:=QaS H;unfold QB at u;split at u
   ·cases u
   ·omega
  have W:¬(xo<0∨xo>255):=by assumption
  refine QA F D (A:=Int) xc.length (fun j n=>St.mk (E1 ((.cell (.ptr 0 0))::E1 ((I xo)::(.cell (.map 1))::E1 ((.cell (.ptr 2 0))::E2 ((I n)::E10 (E3 ((.cell (.ro Qap d))::(I d.length)::(I k)::E40 (E10 ((.cell (.ro Qp xc))::(I xc.length)::(I j)::E20 (E10 (E3 (E1 []))))))))))))
   [some (.var [.imm (.string z),.ro Qap d,.ro Qp w,.ro Qp s,.ro Qp m]),some (.mp true Qf0 .bool (Qaw M (xs,xm) true)),some (.var [.imm (.int .i64 xo),.imm (.string xs),.imm (.int .i64 xm),.ro Qp xc])])
   (fun j n=>n=(((xc.take j).filter Qfb).length:Nat)) 0 (Le.k [] [0,1,2] ?_) rfl fun j n hj E=>?_
  ·repeat' constructor
  repeat' first|(apply Ea;conv=>whnf)|apply Eb|apply Ec|apply Ed|apply Ee|(apply Ei;intro _)|apply Ef F D
  all_goals clear F D
  all_goals have X:=List.length_filter_le Qfb (xc.take j)
  all_goals rw[Yq] at X
  ·show 0≤(j:Int)∧(j:Int)<(xc.length:Int);omega
  ·rename_i g f t;have g:(j:Int)<(xc.length:Int):=g
   have q:Qfb (xc.getD j (dflt Qp))=true:=by
    have f:(xc.getD j (dflt Qp)).1=1:=f;have t:(xc.getD j (dflt Qp)).2.1=0:=t;unfold Qfb;rw[Yl f,Yl t];rfl
   apply Ex _ [] [0,1,2]
   ·repeat' constructor
   ·omega
   ·exact QJ (by omega)
   have e:i64.wrap (n+1)=n+1:=w64 (by omega) (by omega);have e2:=Qk0 (show j<xc.length by omega) q;rw[e];omega
  ·rename_i g f t;have g:(j:Int)<(xc.length:Int):=g
   have q:Qfb (xc.getD j (dflt Qp))=false:=by
    have f:(xc.getD j (dflt Qp)).1=1:=f;have t:¬(xc.getD j (dflt Qp)).2.1=0:=t;unfold Qfb;rw[Yl f,Yn t];rfl
   apply Ex _ [] [0,1,2]
   ·repeat' constructor
   ·omega
   ·exact QJ (by omega)
   have e2:=QgE (show j<xc.length by omega) q;omega
  ·rename_i g f;have g:(j:Int)<(xc.length:Int):=g
   have q:Qfb (xc.getD j (dflt Qp))=false:=by
    have f:¬(xc.getD j (dflt Qp)).1=1:=f;unfold Qfb;rw[Yn f];rfl
   apply Ex _ [] [0,1,2]
   ·repeat' constructor
   ·omega
   ·exact QJ (by omega)
   have e2:=QgE (show j<xc.length by omega) q;omega
  ·rename_i g f;have e:n=Qi7 xc:=by rw[E,Yh (by omega)];rfl
   have f:(n != QcZ xm)=true:=f;rw[e] at f;exact .k [] [] _ rfl (Qd (L 3 (by decide) (Qn2 (fun h=>by omega) (fun h=>by omega) (fun h=>by omega) (by assumption) (by assumption) (by assumption) (by assumption) f) B))
  ·rename_i g f;have e:n=Qi7 xc:=by rw[E,Yh (by omega)];rfl
   have f:(n != QcZ xm)=false:=f;rw[e] at f;apply Ex (xo,Qaw M (xs,xm) true) [] [0,1]
   ·repeat' constructor
   ·omega
   ·exact QJ (by omega)
   exact⟨Q (Qk1 (fun h=>by omega) (fun h=>by omega) (fun h=>by omega) (by assumption) (by assumption) (by assumption) (by assumption) f) B,Qqz S B C,fun _=>by rw[Nat.add_sub_cancel,C]⟩
 ·have B:k<d.length:=by omega
  have U:xc.length≤1000:=by
   have H:(QB xc != 0)=false:=by assumption
   have u:=QaS H;unfold QB at u;split at u
   ·cases u
   ·omega
  have W:¬(xo<0∨xo>255):=by assumption
  refine QA F D (A:=Int) xc.length (fun j n=>St.mk (E1 ((.cell (.ptr 0 0))::E1 ((I xo)::(.cell (.map 1))::E1 ((.cell (.ptr 2 0))::E2 ((I n)::E10 (E3 ((.cell (.ro Qap d))::(I d.length)::(I k)::E40 (E10 ((.cell (.ro Qp xc))::(I xc.length)::(I j)::E20 (E10 (E3 (E1 []))))))))))))
   [some (.var [.imm (.string z),.ro Qap d,.ro Qp w,.ro Qp s,.ro Qp m]),some (.mp true Qf0 .bool (Qaw M (xs,xm) true)),some (.var [.imm (.int .i64 xo),.imm (.string xs),.imm (.int .i64 xm),.ro Qp xc])])
   (fun j n=>n=(((xc.take j).filter Qfb).length:Nat)) 0 (Le.k [] [0,1,2] ?_) rfl fun j n hj E=>?_
  ·repeat' constructor
  repeat' first|(apply Ea;conv=>whnf)|apply Eb|apply Ec|apply Ed|apply Ee|(apply Ei;intro _)|apply Ef F D
  all_goals clear F D
  all_goals have X:=List.length_filter_le Qfb (xc.take j)
  all_goals rw[Yq] at X
  ·show 0≤(j:Int)∧(j:Int)<(xc.length:Int);omega
  ·rename_i g f t;have g:(j:Int)<(xc.length:Int):=g
   have q:Qfb (xc.getD j (dflt Qp))=true:=by
    have f:(xc.getD j (dflt Qp)).1=1:=f;have t:(xc.getD j (dflt Qp)).2.1=0:=t;unfold Qfb;rw[Yl f,Yl t];rfl
   apply Ex _ [] [0,1,2]
   ·repeat' constructor
   ·omega
   ·exact QJ (by omega)
   have e:i64.wrap (n+1)=n+1:=w64 (by omega) (by omega);have e2:=Qk0 (show j<xc.length by omega) q;rw[e];omega
  ·rename_i g f t;have g:(j:Int)<(xc.length:Int):=g
   have q:Qfb (xc.getD j (dflt Qp))=false:=by
    have f:(xc.getD j (dflt Qp)).1=1:=f;have t:¬(xc.getD j (dflt Qp)).2.1=0:=t;unfold Qfb;rw[Yl f,Yn t];rfl
   apply Ex _ [] [0,1,2]
   ·repeat' constructor
   ·omega
   ·exact QJ (by omega)
   have e2:=QgE (show j<xc.length by omega) q;omega
  ·rename_i g f;have g:(j:Int)<(xc.length:Int):=g
   have q:Qfb (xc.getD j (dflt Qp))=false:=by
    have f:¬(xc.getD j (dflt Qp)).1=1:=f;unfold Qfb;rw[Yn f];rfl
   apply Ex _ [] [0,1,2]
   ·repeat' constructor
   ·omega
   ·exact QJ (by omega)
   have e2:=QgE (show j<xc.length by omega) q;omega
  ·rename_i g f;have e:n=Qi7 xc:=by rw[E,Yh (by omega)];rfl
   have f:(n != QcZ xm)=true:=f;rw[e] at f;exact .k [] [] _ rfl (Qd (L 3 (by decide) (Qn2 (fun h=>by omega) (fun h=>by omega) (fun h=>by omega) (by assumption) (by assumption) (by assumption) (by assumption) f) B))
  ·rename_i g f;have e:n=Qi7 xc:=by rw[E,Yh (by omega)];rfl
   have f:(n != QcZ xm)=false:=f;rw[e] at f;apply Ex (xo,Qaw M (xs,xm) true) [] [0,1]
   ·repeat' constructor
   ·omega
   ·exact QJ (by omega)
   exact⟨Q (Qk1 (fun h=>by omega) (fun h=>by omega) (fun h=>by omega) (by assumption) (by assumption) (by assumption) (by assumption) f) B,Qqz S B C,fun _=>by rw[Nat.add_sub_cancel,C]⟩
 ·skip;have O:=J (by rw[←K,Yk (by rw[YS];omega)];rfl);have gr:QB w=0:=by assumption
  have gq:QB s=0:=by assumption
  refine .k [] [] _ rfl (Qd ?_);show QB m=QdU (z,d,w,s,m);rw[←O];refine(((Yf gr:Qi8 (z,d,w,s,m)=Qab QB [s,m]).trans (Yf gq:Qab QB [s,m]=Qab QB [m])).trans ?_).symm;by_cases h:QB m=0
  ·rw[h];exact(Yf h:Qab QB [m]=Qab QB [])
  ·exact(Yb h:Qab QB [m]=QB m)
 ·skip;have O:=J (by rw[←K,Yk (by rw[YS];omega)];rfl);have gr:QB w=0:=by assumption
  have gq:¬QB s=0:=by assumption
  refine .k [] [] _ rfl (Qd ?_);show QB s=QdU (z,d,w,s,m);rw[←O];exact((Yf gr:Qi8 (z,d,w,s,m)=Qab QB [s,m]).trans (Yb gq:Qab QB [s,m]=QB s)).symm
 ·exact YD (by assumption:QB w=0) (by assumption)
 ·skip;have O:=J (by rw[←K,Yk (by rw[YS];omega)];rfl);have gr:¬QB w=0:=by assumption
  refine .k [] [] _ rfl (Qd ?_);show QB w=QdU (z,d,w,s,m);rw[←O];exact(Yb gr:Qi8 (z,d,w,s,m)=QB w).symm
def QFg(b:Bd):Prop:=bdP b∧∀w∈b.2.2.2,w.1.size≤140737488351232
theorem QdJ{l:List Cv}{k:Nat}{e:Int}(S:k<l.length)(H:Qab (fun k=>Qbv (l.take k) (l.getD k (dflt Qe))) ((List.range l.length).drop k)=Qbh l) :
 (Qbv (l.take k) (l.getD k (dflt Qe))≠0→Qbv (l.take k) (l.getD k (dflt Qe))=Qbh l)∧(Qbv (l.take k) (l.getD k (dflt Qe))=0→Qab (fun k=>Qbv (l.take k) (l.getD k (dflt Qe))) ((List.range l.length).drop (k+1))=Qbh l):=by
 have U:k<(List.range l.length).length:=by rw[YS];exact S
 have e1:=QcB S;constructor
 ·intro h;rw[←H,QaM 0 U (by rw[e1];exact h),e1]
 ·intro h;rw[←H,Qa4 0 U (by rw[e1];exact h)]
theorem QiK{b:Bd}{k:Nat}(S:k<b.2.2.2.length)(H:Qab (Qa5 b) ((List.range b.2.2.2.length).drop k)=Qab (Qa5 b) (List.range b.2.2.2.length)) :
 (Qa5 b k≠0→Qa5 b k=Qab (Qa5 b) (List.range b.2.2.2.length))∧(Qa5 b k=0→Qab (Qa5 b) ((List.range b.2.2.2.length).drop (k+1))=Qab (Qa5 b) (List.range b.2.2.2.length)):=by
 have U:k<(List.range b.2.2.2.length).length:=by rw[YS];exact S
 have e1:=QcB S;constructor
 ·intro h;rw[←H,QaM 0 U (by rw[e1];exact h),e1]
 ·intro h;rw[←H,Qa4 0 U (by rw[e1];exact h)]
def Qk5:PSpec:=⟨[gBd],fun(b,_)=>(some (QFg b),I (Qas b),[])⟩
theorem Qwj:G0 53 Qk5.spec:=by
 have J:S0 _:=Qa QfM (Qa Qwi (Qa Qmj (Qa QzX (Qa QvA (Qb (T:=tree))))));have L:=tabs J Qc;refine Qk5.gd L J Tryz.func53 fun(b:Bd) hq=>?_
 obtain⟨⟨⟨X,W⟩,Q⟩,P⟩:QFg b:=hq _ rfl;clear hq;obtain⟨D,⟨t,z,r,s,u⟩,a,d⟩:=b;have X:a.length*64≤140737488351232:=X;have W:d.length*32≤140737488351232:=W;have Q:∀c∈a,cP c∧c.1.size≤140737488351232:=Q;have P:∀w∈d,w.1.size≤140737488351232:=P;obtain⟨B,hB⟩:∃B:Bd,B=(D,(t,z,r,s,u),a,d):=⟨_,rfl⟩
 have C:Qas (D,(t,z,r,s,u),a,d)=if QaK (bytesOf D)=false then 15 else if QdU (t,z,r,s,u)≠0 then QdU (t,z,r,s,u) else if a.length>12 then 2 else if Qbh a≠0 then Qbh a
  else if d.length>40 then 2 else Qab (Qa5 (D,(t,z,r,s,u),a,d)) (List.range d.length):=rfl
 repeat' first|(apply Ea;conv=>whnf)|apply Eb|apply Ec|apply Ed|apply Ee|(apply Ei;intro _)|apply Ef L J
 all_goals(try dsimp only[Qf] at *)
 ·rename_i g;have g:QaK (bytesOf D)=false:=by simpa using g
  refine .k [] [] _ rfl (Qd ?_);rw[C,Yf g]
 ·rename_i g K;have g:QaK (bytesOf D)=true:=by simpa using g
  have K:=Qc2 (x:=QdU (t,z,r,s,u)) K;refine .k [] [] _ rfl (Qd ?_);rw[C,Yb (by rw[g];decide),Yf K]
 ·rename_i g K Z;have g:QaK (bytesOf D)=true:=by simpa using g
  have K:=QaS (x:=QdU (t,z,r,s,u)) K;have Z:(a.length:Int)>12:=Z;refine .k [] [] _ rfl (Qd ?_);rw[C,Yb (by rw[g];decide),Yb (fun h=>h K),Yf (by omega)]
 rename_i g K Z;have g:QaK (bytesOf D)=true:=by simpa using g
 have K:=QaS (x:=QdU (t,z,r,s,u)) K;have Z:¬(a.length:Int)>12:=Z;rw[Yb (by rw[g];decide),Yb (fun h=>h K),Yb (by omega)] at C
 refine QA L J (A:=Unit) a.length (fun i _=>St.mk (E1 ((.cell (.ptr 0 0))::E20 (E5 ((.cell (.ro Qe a))::(I a.length)::(I i)::E40 (E20 (E10 []))))))
  [some (.var [.imm (.string D),.imm (.string t),.ro Qap z,.ro Qp r,.ro Qp s,.ro Qp u,.ro Qe a,.ro Qo d])])
  (fun k _=>Qab (fun k=>Qbv (a.take k) (a.getD k (dflt Qe))) ((List.range a.length).drop k)=Qbh a) () (Le.k [] [0] ?_) rfl fun k _ S H=>?_
 ·repeat' constructor
 have N:∀e:Int,Qbh a=e→e≠0→e=Qas (D,(t,z,r,s,u),a,d):=fun e h1 h2=>by
  rw[C,Yf (by rw[h1];exact h2),h1]
 repeat' first|(apply Ea;conv=>whnf)|apply Eb|apply Ec|apply Ed|apply Ee|(apply Ei;intro _)|apply Ef L J
 all_goals(try dsimp only[Qf] at *)
 ·show 0≤(k:Int)∧(k:Int)<(a.length:Int);omega
 ·rename_i F;have F:(k:Int)<(a.length:Int):=F;exact(Q _ (QK (dflt Qe) (show k<a.length by omega))).1
 ·rename_i F E;have F:(k:Int)<(a.length:Int):=F;have E:(Q0 (a.getD k (dflt Qe)) != 0)=true:=E;have p:=(QdJ (e:=0) (show k<a.length by omega) H).1;have e:Qbv (a.take k) (a.getD k (dflt Qe))=Q0 (a.getD k (dflt Qe)):=Yf (Qc2 E);rw[e] at p;exact .k [] [] _ rfl (Qd (N _ (p (Qc2 E)).symm (Qc2 E)))
 ·show 0≤(k:Int)∧(k:Int)≤(a.length:Int);omega
 ·rename_i F E;have F:(k:Int)<(a.length:Int):=F;have E:(Q0 (a.getD k (dflt Qe)) != 0)=false:=E;have p:=QdJ (e:=0) (show k<a.length by omega) H;have e:Qbv (a.take k) (a.getD k (dflt Qe))=Qab (Qbr (a.getD k (dflt Qe))) (a.take k):=Yb (fun h=>h (QaS E));rw[e] at p;have hx:a.getD (k:Int).toNat (dflt Qe)=a.getD k (dflt Qe):=rfl;have htl:(a.take k).length=k:=by rw[Yq];omega
  have hts:((a.take (k:Int).toNat).drop 0)=a.take k:=rfl;rw[hts,hx];generalize a.getD k (dflt Qe)=x at *;obtain⟨xn,xk,xb,xs,xd⟩:=x;generalize a.take k=pre at *
  refine QA L J (A:=Unit) pre.length (fun j _=>St.mk (E1 ((.cell (.ptr 0 0))::E3 ((.cell (.ptr 1 0))::E20 (E1 ((.cell (.ro Qe a))::(I a.length)::(I k)::E10 (E2 ((.cell (.ro Qe pre))::(I pre.length)::(I j)::E40 (E10 (E5 [])))))))))
   [some (.var [.imm (.string D),.imm (.string t),.ro Qap z,.ro Qp r,.ro Qp s,.ro Qp u,.ro Qe a,.ro Qo d]),some (.var [.imm (.string xn),iv .i64 xk,iv .i64 xb,iv .i64 xs,.ro (.int .u8) xd])])
   (fun j _=>Qab (Qbr (xn,xk,xb,xs,xd)) (pre.drop j)=Qab (Qbr (xn,xk,xb,xs,xd)) pre) () (Le.k [] [0,1] ?_) rfl fun j _ hj M=>?_
  ·repeat' constructor
  repeat' first|(apply Ea;conv=>whnf)|apply Eb|apply Ec|apply Ed|apply Ee|(apply Ei;intro _)|apply Ef L J
  all_goals(try dsimp only[Qf] at *)
  all_goals clear L J
  all_goals(generalize O:pre.getD (j:Int).toNat (dflt Qe)=y at *;obtain⟨yn,yk,yb,ys,yd⟩:=y)
  all_goals(replace O:pre.getD j (dflt Qe)=(yn,yk,yb,ys,yd):=O)
  all_goals(have V:Qbr (xn,xk,xb,xs,xd) (yn,yk,yb,ys,yd)=0→(j:Int)<(pre.length:Int)→Qab (Qbr (xn,xk,xb,xs,xd)) (pre.drop (j+1))=Qab (Qbr (xn,xk,xb,xs,xd)) pre:=fun Y h1=>(Qa4 (f:=Qbr (xn,xk,xb,xs,xd)) (dflt Qe) (show j<pre.length by omega) (by rw[O,Y])).symm.trans M)
  ·show 0≤(j:Int)∧(j:Int)<(pre.length:Int);omega
  ·rename_i m n;have m:(j:Int)<(pre.length:Int):=m;have n:Qm yn xn=true:=n;have e5:Qbr (xn,xk,xb,xs,xd) (yn,yk,yb,ys,yd)=5:=Yf n;have e6:=QaM (f:=Qbr (xn,xk,xb,xs,xd)) (dflt Qe) (show j<pre.length by omega) (by rw[O,e5];decide);rw[O,e5,M] at e6;rw[e6] at p;exact .k [] [] _ rfl (Qd (N _ (p.1 (by decide)).symm (by decide)))
  ·rename_i m n G g9;have m:(j:Int)<(pre.length:Int):=m;have n:Qm yn xn=false:=n
   have e5:Qbr (xn,xk,xb,xs,xd) (yn,yk,yb,ys,yd)=16:=by
    unfold Qbr;rw[Yb (by rw[show Qm yn xn=false from n];decide),Yf ⟨G,g9⟩]
   have e6:=QaM (f:=Qbr (xn,xk,xb,xs,xd)) (dflt Qe) (show j<pre.length by omega) (by rw[O,e5];decide);rw[O,e5,M] at e6;rw[e6] at p;exact .k [] [] _ rfl (Qd (N _ (p.1 (by decide)).symm (by decide)))
  ·rename_i m n G g9;have m:(j:Int)<(pre.length:Int):=m;apply Ex () [] [0,1]
   ·repeat' constructor
   ·omega
   ·exact QJ (by omega)
   refine V ?_ m;unfold Qbr;rw[Yb (by rw[show Qm yn xn=false from n];decide),Yb (fun h=>g9 h.2)]
  ·rename_i m n G;have m:(j:Int)<(pre.length:Int):=m;apply Ex () [] [0,1]
   ·repeat' constructor
   ·omega
   ·exact QJ (by omega)
   refine V ?_ m;unfold Qbr;rw[Yb (by rw[show Qm yn xn=false from n];decide),Yb (fun h=>G h.1)]
  ·rename_i m;have m:¬(j:Int)<(pre.length:Int):=m
   have e0:Qab (Qbr (xn,xk,xb,xs,xd)) pre=0:=by
    rw[←M,Yk (by omega)];rfl
   apply Ex () [] [0]
   ·repeat' constructor
   ·omega
   ·exact QJ (by omega)
   exact p.2 e0
 ·rename_i F E;have F:¬(k:Int)<(a.length:Int):=F;have E:(d.length:Int)>40:=E
  have Y:Qbh a=0:=by
   rw[←H,Yk (by rw[YS];omega)];rfl
  refine .k [] [] _ rfl (Qd ?_);rw[C,Yb (fun h=>h Y),Yf (by omega)]
 rename_i F E;have F:¬(k:Int)<(a.length:Int):=F;have E:¬(d.length:Int)>40:=E
 have Y:Qbh a=0:=by
  rw[←H,Yk (by rw[YS];omega)];rfl
 rw[Yb (fun h=>h Y),Yb (by omega)] at C;clear H N
 refine QA L J (A:=Unit) d.length (fun i _=>St.mk (E1 ((.cell (.ptr 0 0))::E40 (E20 (E10 (E5 (E3 ((.cell (.ro Qo d))::(I d.length)::(I i)::E10 (E5 (E2 [])))))))))
  [some (.var [.imm (.string D),.imm (.string t),.ro Qap z,.ro Qp r,.ro Qp s,.ro Qp u,.ro Qe a,.ro Qo d])])
  (fun k _=>Qab (Qa5 (D,(t,z,r,s,u),a,d)) ((List.range d.length).drop k)=Qab (Qa5 (D,(t,z,r,s,u),a,d)) (List.range d.length)) () (Le.k [] [0] ?_) rfl fun q _ hq hj=>?_
 ·repeat' constructor
 repeat' first|(apply Ea;conv=>whnf)|apply Eb|apply Ec|apply Ed|apply Ee|(apply Ei;intro _)|apply Ef L J
 all_goals(try dsimp only[Qf] at *)
 all_goals clear L J
 all_goals(generalize hw:d.getD (q:Int).toNat (dflt Qo)=w at *;obtain⟨wf,wt⟩:=w)
 all_goals(replace hw:d.getD q (dflt Qo)=(wf,wt):=hw)
 all_goals(have hA:Qa5 (D,(t,z,r,s,u),a,d) q=if Qbq (D,(t,z,r,s,u),a,d) (d.getD q (dflt Qo))≠0 then Qbq (D,(t,z,r,s,u),a,d) (d.getD q (dflt Qo)) else if (d.take q).any (Qc0 (d.getD q (dflt Qo)))=true then 5 else 0:=rfl)
 all_goals(rw[hw] at hA)
 all_goals(have p:=fun h=>QiK (b:=(D,(t,z,r,s,u),a,d)) (k:=q) h hj)
 all_goals(rw[hA] at p)
 ·show 0≤(q:Int)∧(q:Int)<(d.length:Int);omega
 ·rename_i m;have m:(q:Int)<(d.length:Int):=m;have:=P _ (QK (dflt Qo) (show q<d.length by omega));rw[hw] at this;exact⟨by omega,this⟩
 ·rename_i m n;have m:(q:Int)<(d.length:Int):=m;have n:=Qc2 (x:=Qbq (D,(t,z,r,s,u),a,d) (wf,wt)) n;have p:=p (by show q<d.length;omega);rw[Yf n] at p;refine .k [] [] _ rfl (Qd ?_);rw[C,←p.1 n]
 ·show 0≤(q:Int)∧(q:Int)≤(d.length:Int);omega
 ·show((d.take (q:Int).toNat).drop 0).length≤4611686018427387904;rw[List.drop_zero,Yq];omega
 ·rename_i m n G;have m:(q:Int)<(d.length:Int):=m;have n:=QaS (x:=Qbq (D,(t,z,r,s,u),a,d) (wf,wt)) n;have G:(d.take q).any (Qc0 (wf,wt))=true:=G;have p:=p (by show q<d.length;omega);rw[Yb (fun h=>h n),Yf G] at p;refine .k [] [] _ rfl (Qd ?_);rw[C,←p.1 (by decide)]
 ·rename_i m n G;have m:(q:Int)<(d.length:Int):=m;have n:=QaS (x:=Qbq (D,(t,z,r,s,u),a,d) (wf,wt)) n;have G:(d.take q).any (Qc0 (wf,wt))=false:=G;have p:=p (by show q<d.length;omega);rw[Yb (fun h=>h n),Yb (by rw[G];decide)] at p;apply Ex () [] [0]
  ·repeat' constructor
  ·omega
  ·exact QJ (by omega)
  exact p.2 rfl
 ·rename_i m;have m:¬(q:Int)<(d.length:Int):=m;refine .k [] [] _ rfl (Qd ?_);rw[C,←hj,Yk (by rw[YS];omega)];rfl
theorem Qn3{c:Cv}(h:Q0 c=0):(0≤c.2.1∧c.2.1≤8)∧(1≤c.2.2.2.1∧c.2.2.2.1≤4096)∧0≤c.2.2.1∧c.2.2.1≤65536-c.2.2.2.1:=by
 obtain⟨cn,ck,cb,cs,cd⟩:=c;unfold Q0 at h;dsimp only at h ⊢
 repeat' split at h
 all_goals first
  |(exfalso;revert h;decide)
  |skip
 all_goals
  rcases kinds ck with rfl|rfl|rfl|rfl|rfl|rfl|rfl|rfl|rfl|n
 all_goals(try simp only[Qkz] at *)
 all_goals first
  |omega
  |(simp only[QcE,sel] at *;omega)
  |(simp[QcE,sel] at *;omega)
theorem QmF{c d:Cv}(q:Q0 c=0)(u:Q0 d=0) :
 (imax c.2.2.1 d.2.2.1<imin (i64.wrap (c.2.2.1+c.2.2.2.1)) (i64.wrap (d.2.2.1+d.2.2.2.1)))↔(c.2.2.1<i64.wrap (d.2.2.1+d.2.2.2.1)∧d.2.2.1<i64.wrap (c.2.2.1+c.2.2.2.1)):=by
 have g:=Qn3 q;have m:=Qn3 u;rw[Q8,QS,w64 (by omega) (by omega),w64 (by omega) (by omega)];omega
theorem Qk3{α:Type}{f:α→Int}:∀{l:List α},Qab f l=0→∀x∈l,f x=0
 |y::r,h,x,n=>by
  unfold Qab at h;split at h
  ·rename_i C;rcases Yt.1 n with rfl|n
   ·exact C
   ·exact Qk3 h x n
  ·rename_i C;exact YD h C
theorem QmG{l:List Cv}(h:Qbh l=0){k:Nat}(t:k<l.length):Qbv (l.take k) (l.getD k (dflt Qe))=0 :=
 Qk3 h k (List.mem_range.2 t)
theorem QzY{l:List Cv}(h:Qbh l=0){c:Cv}(q:c∈l):Q0 c=0:=by
 obtain⟨k,t,e⟩:=List.getElem_of_mem q;have g:=QmG h t;rw[Yd,Ye t,Option.getD_some,e] at g;unfold Qbv at g;split at g
 ·rename_i m;exact YD g m
 ·rename_i m;omega
theorem Qsp{c d:Cv}(h:Qbr c d=0):d.1≠c.1:=fun e=>by
 unfold Qbr at h;rw[Yf (QF.2 e)] at h;cases h
theorem Qeg{l:List Cv}(h:Qbh l=0):l.Pairwise fun c d=>c.1≠d.1:=by
 rw[List.pairwise_iff_getElem];intro i j hi hj hij;have g:=QmG h hj;rw[Yd,Ye hj,Option.getD_some] at g;unfold Qbv at g;split at g
 ·rename_i m;exact YD g m
 ·have A:=Qk3 g l[i] (by
   rw[List.mem_take_iff_getElem]
   exact⟨i,by omega,rfl⟩)
  exact Qsp A
def QmH(s:ByteArray)(k:Int)(c:Cv):Int:=if Qm c.1 s=true then c.2.1 else k
def Qi9(s:ByteArray)(l:List Cv):Int:=l.foldl (QmH s) (-1)
theorem QeC{s:ByteArray}{l:List Cv}{k:Nat}(h:k<l.length):Qi9 s (l.take (k+1))=QmH s (Qi9 s (l.take k)) (l.getD k (dflt Qe)):=by
 unfold Qi9;rw[Qbd (dflt Qe) h,List.foldl_append];rfl
theorem QjG{s:ByteArray}:∀{l:List Cv} {a:Int},(∀c∈l,c.1≠s)→l.foldl (QmH s) a=a
 | [],_,_=>rfl
 |x::r,a,h=>by
  rw[List.foldl_cons,show QmH s a x=a from Yb (fun e=>h x (YZ ..) (QF.1 e))];exact QjG fun c q=>h c (YP _ q)
theorem QmI{s:ByteArray}:∀{l:List Cv} {a:Int} {k:Nat},l.Pairwise (fun c d=>c.1≠d.1) →
 (QdO (nmB s) l k<0→l.foldl (QmH s) a=a)∧(0≤QdO (nmB s) l k→l.foldl (QmH s) a=(l.getD (QdO (nmB s) l k-k).toNat (dflt Qe)).2.1)
 | [],a,k,_=>⟨fun _=>rfl,fun h=>by simp[QdO] at h⟩
 |x::r,a,k,B=>by
  rw[List.pairwise_cons] at B;by_cases n:Qm x.1 s=true
  ·have e:QdO (nmB s) (x::r) k=k:=Yf n;rw[e];refine⟨fun h=>by omega,fun _=>?_⟩;rw[List.foldl_cons,show QmH s a x=x.2.1 from Yf n,QjG (fun c q ec=>B.1 c q ((QF.1 n).trans ec.symm)),show((k:Int)-k).toNat=0 by omega];rfl
  ·have e:QdO (nmB s) (x::r) k=QdO (nmB s) r (k+1):=Yb n;obtain⟨g,m⟩:=QmI (s:=s) (l:=r) (a:=a) (k:=k+1) B.2;rw[e,List.foldl_cons,show QmH s a x=a from Yb n];refine⟨g,fun h=>?_⟩;rw[m h];have w:=QkH (p:=nmB s) (l:=r) (k:=k+1);rw[show(QdO (nmB s) r (k+1)-(k:Int)).toNat=(QdO (nmB s) r (k+1)-((k+1:Nat):Int)).toNat+1 by omega];rfl
theorem Qk4{s:ByteArray}{l:List Cv}(B:l.Pairwise fun c d=>c.1≠d.1):Qi9 s l=if QbV (nmB s) l<0 then -1 else (l.getD (QbV (nmB s) l).toNat (dflt Qe)).2.1:=by
 obtain⟨g,m⟩:=QmI (s:=s) (a:=-1) (k:=0) B;unfold Qi9 QbV;split
 ·rename_i h;exact g h
 ·rename_i h;rw[m (by omega)];simp
theorem QfZ{s:ByteArray}{l:List Cv}(h:Qbh l=0):Qi9 s l<0↔QbV (nmB s) l<0:=by
 rw[Qk4 (Qeg h)];have w:=QkI (nmB s) l;split
 ·rename_i g;exact⟨fun _=>g,fun _=>by decide⟩
 ·rename_i g;have:=(Qn3 (QzY h (QK (dflt Qe) (show(QbV (nmB s) l).toNat<l.length by omega)))).1;omega
theorem QmJ{a b:ByteArray}(h:a.data.toList=b.data.toList):a=b:=by
 cases a;cases b;simp only[ByteArray.mk.injEq];exact Array.ext' h
theorem QmK:∀{l:List UInt8},0≤Lib.indexByte l 46→l=l.take (Lib.indexByte l 46).toNat++46::l.drop ((Lib.indexByte l 46).toNat+1)
 | [],h=>by simp[Lib.indexByte] at h
 |x::r,h=>by
  unfold Lib.indexByte at h ⊢;by_cases n:(x==46)=true
  ·rw[Yf n];have:x=46:=by simpa using n
   subst this;rfl
  ·rw[Yb n] at h ⊢;by_cases m:(Lib.indexByte r 46 == -1)=true
   ·rw[Yf m] at h;simp at h
   ·rw[Yb m] at h ⊢;have w:=QiH 46 r;have A:Lib.indexByte r 46≠-1:=fun e=>m (beq_iff_eq.2 e)
    have ih:=QmK (l:=r) (by omega);rw[show(Lib.indexByte r 46+1).toNat=(Lib.indexByte r 46).toNat+1 by omega];simpa using ih
theorem QBS(s:ByteArray):Qm s (QdQ s++Qhg)=Qm (cutA s) QzW:=by
 rw[YI,QF,QF];by_cases u:0≤QbZ s
 ·have e:=QmK (l:=s.data.toList) u
  have g:(QdQ s).data.toList=s.data.toList.take (QbZ s).toNat:=by
   unfold QdQ;rw[Yf u,ByteArray.data_extract];simp
  have w:=QiI u;have hsz:s.data.toList.length=s.size:=Array.length_toList
  have m:(cutA s).data.toList=s.data.toList.drop ((QbZ s).toNat+1):=by
   unfold cutA;rw[Yf u,ByteArray.data_extract,show(QbZ s+1).toNat=(QbZ s).toNat+1 by omega];rw[Array.toList_extract,List.extract_eq_take_drop];rw[Yh (by rw[List.length_drop];omega)]
  have A:(QdQ s++Qhg).data.toList=s.data.toList.take (QbZ s).toNat++[46,105,114,113]:=by
   rw[ByteArray.data_append,Array.toList_append,g];rfl
  constructor
  ·intro h;apply QmJ;rw[m];have z:s.data.toList=(QdQ s++Qhg).data.toList:=Yv (fun x:ByteArray=>x.data.toList) h;rw[A] at z;have E:=e.symm.trans z;have h6:=List.append_cancel_left E;injection h6
  ·intro h;apply QmJ;rw[A];have z:(cutA s).data.toList=QzW.data.toList:=Yv (fun x:ByteArray=>x.data.toList) h;rw[m] at z;have E:s.data.toList.drop ((QbZ s).toNat+1)=[105,114,113]:=z;refine e.trans ?_;show s.data.toList.take (QbZ s).toNat++46::s.data.toList.drop ((QbZ s).toNat+1)=_;rw[E]
 ·have e1:QdQ s=s:=Yb u;have e2:cutA s=⟨#[]⟩:=Yb u;rw[e1,e2];constructor
  ·intro h;have z:=Yv ByteArray.size h;rw[ByteArray.size_append] at z;have:Qhg.size=4:=rfl;omega
  ·intro h;exact YD (Yv ByteArray.size h) (by decide)
theorem QzZ{l:List (Den Qo×Den .bool)}{k k':Den Qo}{v:Den .bool}:Qan (Qaw l k v) k'=if QD Qo k' k=true then some v else Qan l k':=by
 have hs:∀{a b:Den Qo},QD Qo a b=true↔a=b:=Qvz
 induction l with
 |nil =>
  show(match QD Qo k' k with|true=>some v|false=>none)=_;cases QD Qo k' k<;>rfl
 |cons p r ih =>
  obtain⟨pk,pv⟩:=p;by_cases h:QD Qo k pk=true
  ·have e:Qaw ((pk,pv)::r) k v=(k,v)::r:=by
    show(match QD Qo k pk with|true=>(k,v)::r|false=>(pk,pv)::Qaw r k v)=_;rw[h]
   rw[e];have t:=hs.1 h;subst t;show(match QD Qo k' k with|true=>some v|false=>Qan r k')=if QD Qo k' k=true then some v else (match QD Qo k' k with|true=>some pv|false=>Qan r k')
   cases QD Qo k' k<;>rfl
  ·have C:QD Qo k pk=false:=by simpa using h
   have e:Qaw ((pk,pv)::r) k v=(pk,pv)::Qaw r k v:=by
    show(match QD Qo k pk with|true=>(k,v)::r|false=>(pk,pv)::Qaw r k v)=_;rw[C]
   rw[e];show(match QD Qo k' pk with|true=>some pv|false=>Qan (Qaw r k v) k')=if QD Qo k' k=true then some v else (match QD Qo k' pk with|true=>some pv|false=>Qan r k')
   rw[ih];by_cases g:QD Qo k' pk=true
   ·have m:¬QD Qo k' k=true:=fun A=>h (by rw[←hs.1 A];exact g)
    rw[g];show some pv=if QD Qo k' k=true then some v else some pv
    rw[Yb m]
   ·have F:QD Qo k' pk=false:=by simpa using g
    rw[F]
def QEp(M:List (Den Qo×Den .bool))(l:List Wr):Prop:=∀x:Wr,QgV (Qan M x) false=l.any (Qc0 x)
theorem QmL{M:List (Den Qo×Den .bool)}{l:List Wr}{k:Nat}{y:Wr}(h:QEp M (l.take k))(t:k<l.length)(e:l.getD k (dflt Qo)=y):QEp (Qaw M y true) (l.take (k+1)):=by
 intro x;rw[QzZ,Qbd (dflt Qo) t,e,List.any_append];by_cases q:Qc0 x y=true
 ·rw[Yf (show QD Qo x y=true from q)];show true=_;simp[q]
 ·rw[Yb (show¬QD Qo x y=true from q),h x];have D:Qc0 x y=false:=by simpa using q
  simp[D]
def inB(x:Inp)(c:Cv):Bool:=Qm c.1 x.2.1
def QEo:List V1→List Blk→Option (Cv×Inp):=fun a b=>match a,b with
 | [.agg [.imm (.string en),.imm (.int .i64 ek),.imm (.int .i64 eb),.imm (.int .i64 es),.ro (.int .u8) ed],.c (.ptr 0 0)],[.var [.imm (.int .i64 ia),.imm (.string ic),.imm (.int .i64 n)]]=>some ((en,ek,eb,es,ed),(ia,ic,n))
 |_,_=>none
theorem QzU{a:List V1}{b:List Blk}{x:Cv×Inp}(h:QEo a b=some x):a=[.agg [.imm (.string x.1.1),iv .i64 x.1.2.1,iv .i64 x.1.2.2.1,iv .i64 x.1.2.2.2.1,.ro (.int .u8) x.1.2.2.2.2],.c (.ptr 0 0)]∧b=[.var [iv .i64 x.2.1,.imm (.string x.2.2.1),iv .i64 x.2.2.2]]:=by
 unfold QEo at h;split at h
 ·injection h with h;subst h;exact⟨rfl,rfl⟩
 ·cases h
def QMc:WSpec:=⟨Cv×Inp,fun x=>[.agg [.imm (.string x.1.1),iv .i64 x.1.2.1,iv .i64 x.1.2.2.1,iv .i64 x.1.2.2.2.1,.ro (.int .u8) x.1.2.2.2.2],.c (.ptr 0 0)],fun x=>[.var [iv .i64 x.2.1,.imm (.string x.2.2.1),iv .i64 x.2.2.2]],QEo,
 fun x=>(some ((fun _=>True) x.2),.cell (bv (inB x.2 x.1)),[some (.var [iv .i64 x.2.1,.imm (.string x.2.2.1),iv .i64 x.2.2.2])],[])⟩
theorem QHF:G0 54 QMc.spec:=by
 have e:S0 _:=(Qb (T:=tree))
 have f:=tabs e Qc;refine QMc.gd f e Tryz.func54 (fun _ _ _ h=>QzU h) fun(x:Cv×Inp) j=>?_
 have j:(fun _=>True) x.2:=j _ rfl
 repeat' first|(apply Ea;conv=>whnf)|apply Eb|apply Ec|apply Ed|apply Ee|(apply Ei;intro _)|apply Ef f e
 all_goals exact .k [] [0] _ R R
structure miX where
 l:List Cv
 d:Inp
def QI0:List V1→List Blk→Option miX:=fun a b=>match a,b with
 | [.c (.ro (.pair .str (.pair (.int .i64) (.pair (.int .i64) (.pair (.int .i64) (.sl (.int .u8)))))) l),.c (.fn 54 [0])],[.var [.imm (.int .i64 ia),.imm (.string ic),.imm (.int .i64 n)]]=>some ⟨l,(ia,ic,n)⟩
 |_,_=>none
theorem Qwe{a:List V1}{b:List Blk}{x:miX}(h:QI0 a b=some x):a=[.c (.ro Qe x.l),.c (.fn 54 [0])]∧b=[.var [iv .i64 x.d.1,.imm (.string x.d.2.1),iv .i64 x.d.2.2]]:=by
 unfold QI0 at h;split at h
 ·injection h with h;subst h;exact⟨rfl,rfl⟩
 ·cases h
def QMd:WSpec:=⟨miX,fun x=>[.c (.ro Qe x.l),.c (.fn 54 [0])],fun x=>[.var [iv .i64 x.d.1,.imm (.string x.d.2.1),iv .i64 x.d.2.2]],QI0,
 fun x=>(some (x.l.length≤4611686018427387904∧(fun _=>True) x.d),I (QbV (inB x.d) x.l),[some (.var [iv .i64 x.d.1,.imm (.string x.d.2.1),iv .i64 x.d.2.2])],[])⟩
theorem QHG:G0 98 QMd.spec:=by
 have e:S0 _:=Qa QHF (Qb (T:=tree));have f:=tabs e Qc;refine QMd.gd f e Tryz.func98 (fun _ _ _ h=>Qwe h) fun(x:miX) j=>?_
 obtain⟨hl,j⟩:x.l.length≤4611686018427387904∧(fun _=>True) x.d:=j _ rfl;obtain⟨l,d⟩:=x;have hl:l.length≤4611686018427387904:=hl
 repeat' first|(apply Ea;conv=>whnf)|apply Eb|apply Ec|apply Ed|apply Ee|(apply Ei;intro _)|apply Ef f e
 refine QA f e (A:=Unit) l.length (fun i _=>St.mk ((.cell (.ro Qe l))::(.cell (.fn 54 [0]))::E5 ((I l.length)::(I i)::E10 [])) [some (.var [iv .i64 d.1,.imm (.string d.2.1),iv .i64 d.2.2])])
  (fun k _=>QdO (inB d) (l.drop k) k=QbV (inB d) l) () (Le.mk [] [0] R R R ?_) rfl fun k _ hk p=>?_
 ·repeat' constructor
 repeat' first|(apply Ea;conv=>whnf)|apply Eb|apply Ec|apply Ed|apply Ee|(apply Ei;intro _)|apply Ef f e
 all_goals clear f e
 ·rename_i g;have g:(k:Int)<(l.length:Int):=g;show 0≤(k:Int)∧(k:Int)<(l.length:Int);omega
 ·first|exact j|exact trivial
 ·rename_i g m;have g:(k:Int)<(l.length:Int):=g;exact .k [] [0] _ rfl (Qd (QdG (dflt Qe) (by omega) m p))
 ·rename_i g m;have g:(k:Int)<(l.length:Int):=g
  have hp:¬inB d (l.getD k (dflt Qe))=true:=by
   have m:inB d (l.getD k (dflt Qe))=false:=m;rw[m];decide
  apply Ex () [] [0]
  ·repeat' constructor
  ·omega
  ·exact QJ (by omega)
  exact Qbu (dflt Qe) (by omega) hp p
 ·rename_i g;have g:¬(k:Int)<(l.length:Int):=g;exact .k [] [0] _ rfl (Qd (QcO (by omega) p))
def QMe:WSpec:=⟨miX,fun x=>[.c (.ro Qe x.l),.c (.fn 54 [0])],fun x=>[.var [iv .i64 x.d.1,.imm (.string x.d.2.1),iv .i64 x.d.2.2]],QI0,
 fun x=>(some (x.l.length≤4611686018427387904∧(fun _=>True) x.d),.cell (bv (x.l.any (inB x.d))),[some (.var [iv .i64 x.d.1,.imm (.string x.d.2.1),iv .i64 x.d.2.2])],[])⟩
theorem QHH:G0 49 QMe.spec:=by
 have e:S0 _:=Qa QHG (Qb (T:=tree));have f:=tabs e Qc;refine QMe.gd f e Tryz.func49 (fun _ _ _ h=>Qwe h) fun(x:miX) j=>?_
 have j:x.l.length≤4611686018427387904∧(fun _=>True) x.d:=j _ rfl;obtain⟨l,d⟩:=x
 repeat' first|(apply Ea;conv=>whnf)|apply Eb|apply Ec|apply Ed|apply Ee|(apply Ei;intro _)|apply Ef f e
 all_goals clear f e
 ·first|exact j|exact trivial
 ·exact .k [] [0] _ rfl (Qj (Qiq (inB d) l))
def QHP:PSpec:=⟨[⟨false,.sl .str⟩,Qyz],fun(l,v,_)=>(some (List.length l≤4611686018427387904),I (QbV (Qm v) l),[])⟩
theorem QEx:G0 104 QHP.spec:=by
 have a:S0 _:=(Qb (T:=tree))
 have c:=tabs a Qc;refine QHP.gd c a Tryz.func104 fun(l:List ByteArray) (v:ByteArray) d=>?_
 have hl:l.length≤4611686018427387904:=d _ rfl;clear d
 repeat' first|(apply Ea;conv=>whnf)|apply Eb|apply Ec|apply Ed|apply Ee|(apply Ei;intro _)|apply Ef c a
 refine QA c a (A:=Unit) l.length (fun i _=>St.mk ((.cell (.ro .str l))::(.cell (.imm (.string v)))::E5 ((I l.length)::(I i)::E10 [])) [])
  (fun k _=>QdO (Qm v) (l.drop k) k=QbV (Qm v) l) () (Le.mk [] [] R R R ?_) rfl fun k _ hk f=>?_
 ·repeat' constructor
 repeat' first|(apply Ea;conv=>whnf)|apply Eb|apply Ec|apply Ed|apply Ee|(apply Ei;intro _)|apply Ef c a
 all_goals clear c a
 ·rename_i b;have b:(k:Int)<(l.length:Int):=b;show 0≤(k:Int)∧(k:Int)<(l.length:Int);omega
 ·rename_i b e;have b:(k:Int)<(l.length:Int):=b;exact .k [] [] _ rfl (Qd (QdG (dflt .str) (by omega) e f))
 ·rename_i b e;have b:(k:Int)<(l.length:Int):=b
  have hp:¬Qm v (l.getD k (dflt .str))=true:=by
   have e:Qm v (l.getD k (dflt .str))=false:=e;rw[e];decide
  apply Ex () [] []
  ·repeat' constructor
  ·omega
  ·exact QJ (by omega)
  exact Qbu (dflt .str) (by omega) hp f
 ·rename_i b;have b:¬(k:Int)<(l.length:Int):=b;exact .k [] [] _ rfl (Qd (QcO (by omega) f))
def QHQ:PSpec:=⟨[⟨false,.sl .str⟩,Qyz],fun(l,v,_)=>(some (List.length l≤4611686018427387904),.cell (bv (l.any (Qm v))),[])⟩
theorem QEy:G0 55 QHQ.spec:=by
 have a:S0 _:=Qa QEx (Qb (T:=tree));have c:=tabs a Qc;refine QHQ.gd c a Tryz.func55 fun(l:List ByteArray) (v:ByteArray) d=>?_
 have hl:l.length≤4611686018427387904:=d _ rfl;clear d
 repeat' first|(apply Ea;conv=>whnf)|apply Eb|apply Ec|apply Ed|apply Ee|(apply Ei;intro _)|apply Ef c a
 all_goals clear c a
 ·exact hl
 ·exact .k [] [] _ rfl (Qj (Qiq (Qm v) l))
def QHT:PSpec:=⟨[],fun _=>(none,.agg [.run .i64 9 [0,0,0,0,4,0,0,0,0],iv .i64 258,iv .i64 0,bv false],[])⟩
theorem QEz:G0 59 QHT.spec:=by
 have a:S0 _:=(Qb (T:=tree))
 have e:=tabs a Qc;refine QHT.gd e a Tryz.func59 fun _=>?_
 repeat' first|(apply Ea;conv=>whnf)|apply Eb|apply Ec|apply Ed|apply Ee|(apply Ei;intro _)|apply Ef e a
 all_goals first
  |exact Ya rfl
  |exact .k [] [] _ R R
  |skip
def QEA:Cv:=(⟨#[114,97,109]⟩,0,8,4,[])
def QFi:Mach:=(0,([0,0,0,0,4,0,0,0,0],258,0,false),[Qed QEA],0,0,0)
def QK5(m:Mach):V1:=.agg [iv .i64 m.1,.run .i64 9 m.2.1.1,iv .i64 m.2.1.2.1,iv .i64 m.2.1.2.2.1,bv m.2.1.2.2.2,.ro Qh m.2.2.1,iv .i64 m.2.2.2.1,iv .i64 m.2.2.2.2.1,iv .i64 m.2.2.2.2.2]
def QBW:PSpec:=⟨[gBd],fun(b,_)=>(some (b=Qz4),.tup [QK5 QFi,I1 0],[])⟩
theorem Qws:cP QEA:=⟨⟨by decide,by decide⟩,⟨by decide,by decide⟩,by decide⟩
theorem Qz5:G0 17 QBW.spec:=by
 have a:S0 _:=Qa Qsv (Qa QEz (Qa QDw (Qb (T:=tree))));have e:=tabs a Qc;refine QBW.gd e a Tryz.func17 fun(b:Bd) hq=>?_
 obtain rfl:b=Qz4:=hq _ rfl;clear hq
 repeat' first|(apply Ea;conv=>whnf)|apply Eb|apply Ec|apply Ed|apply Ee|(apply Ei;intro _)|apply Ef e a
 ·exact rfl
 refine QA e a (A:=List Dv) 1 (fun i o=>St.mk (E2 ((.cell (.ptr 0 0))::E2 ((.cell (.ptr 1 0))::E10 (E1 ((.cell (.ro Qe [QEA]))::(I 1)::(I i)::E10 (E2 []))))))
  [some (.var [.imm (.int .i64 0),.run .i64 9 (List.replicate 9 0),.imm (.int .i64 0),.imm (.int .i64 0),.imm (.bool false),.imm (.slice none 0 0),.imm (.int .i64 0),.imm (.int .i64 0),.imm (.int .i64 0)]),some (.var [.imm (.int .i64 0),.run .i64 9 [0,0,0,0,4,0,0,0,0],.imm (.int .i64 258),.imm (.int .i64 0),.imm (.bool false),.own 2,.imm (.int .i64 0),.imm (.int .i64 0),.imm (.int .i64 0)]),some (.arr Qh o)])
  (fun k o=>o=[Qed QEA].take k) [] (.trans (Le.nilH 2 Qh _ _ R R R) (Le.k [] [1,2,3] ?_)) rfl fun k o hk j=>?_
 ·repeat' constructor
 repeat' first|(apply Ea;conv=>whnf)|apply Eb|apply Ec|apply Ed|apply Ee|(apply Ei;intro _)|apply Ef e a
 all_goals(try dsimp only[Qf] at *)
 all_goals clear e a
 ·rename_i g;have g:(k:Int)<1:=g;show 0≤(k:Int)∧(k:Int)<1;omega
 ·rename_i g;have g:(k:Int)<1:=g;obtain rfl:k=0:=by omega
  exact Qws
 ·rename_i g;have g:(k:Int)<1:=g;have hl:o.length≤1:=by rw[j,Yq];exact Nat.min_le_right _ _
  show(o.length+1)*48≤140737488355328;omega
 ·rename_i g;have g:(k:Int)<1:=g;obtain rfl:k=0:=by omega
  obtain rfl:o=[]:=j;apply Ex _ [] [0,1,7]
  ·repeat' constructor
  ·omega
  ·exact QJ (by omega)
  rfl
 ·rename_i g;have g:¬(k:Int)<1:=g;obtain rfl:k=1:=by omega
  obtain rfl:o=[Qed QEA]:=j;exact .k [2] [] _ R R
def Qwt(d:Dv):Bool:=decide (List.length d.1≤100)&&(decide (List.length d.2≤100)&&d.2.all fun x=>decide (0≤x∧x<256))
theorem QqC{d:Dv}(h:Qwt d=true):(List.length d.1≤100∧List.length d.2≤100)∧u8s d.2:=by
 unfold Qwt at h;simp only[Yj,YB,List.all_eq_true] at h;exact⟨⟨h.1,h.2.1⟩,fun x hx=>h.2.2 x hx⟩
theorem QBX{m:Mach}(h:m.2.2.1.length≤10∧m.2.2.1.all Qwt=true):QrX Qz4 m:=by
 refine⟨⟨by decide,fun c f=>?_⟩,⟨by have:=h.1;omega,fun d n=>?_⟩,fun d n=>?_⟩
 ·have f:c∈[QEA]:=f;rw[Jl] at f;subst f;exact Qws
 ·obtain⟨⟨h1,h2⟩,h3⟩:=QqC (List.all_eq_true.1 h.2 d n);omega
 ·obtain⟨⟨h1,h2⟩,h3⟩:=QqC (List.all_eq_true.1 h.2 d n);exact⟨by omega,h3⟩
theorem QHU:QFi.2.2.1.length≤10∧QFi.2.2.1.all Qwt=true:=by decide +kernel
theorem QEB:(Qi5 Qz4 QFi 9 77).2.2.1.length≤10∧(Qi5 Qz4 QFi 9 77).2.2.1.all Qwt=true:=by decide +kernel
theorem Qz6:(bif true then (QnV Qz4 (Qi5 Qz4 QFi 9 77) 9==77) else false)=true:=by decide +kernel
def QqD:PSpec:=⟨[],fun _=>(none,.agg [.imm (.string ⟨#[98]⟩),.imm (.string ⟨#[99]⟩),.imm (.slice none 0 0),.imm (.slice none 0 0),.imm (.slice none 0 0),.imm (.slice none 0 0),.ro Qe [QEA],.imm (.slice none 0 0)],[])⟩
theorem Qsw:G0 44 QqD.spec:=by
 have a:S0 _:=(Qb (T:=tree))
 have e:=tabs a Qc;refine QqD.gd e a Tryz.func44 fun _=>?_
 repeat' first|(apply Ea;conv=>whnf)|apply Eb|apply Ec|apply Ed|apply Ee|(apply Ei;intro _)|apply Ef e a
 all_goals first
  |exact Ya rfl
  |exact .k [1] [] _ R R
  |skip
def QmQ:PSpec:=⟨[],fun _=>(none,.cell (bv true),[])⟩
theorem QiM:G0 10 QmQ.spec:=by
 have a:S0 _:=Qa Qsw (Qa Qz5 (Qa Qzx (Qa Qzw (Qb (T:=tree)))));have e:=tabs a Qc;refine QmQ.gd e a Tryz.func10 fun _=>?_
 repeat' first|(apply Ea;conv=>whnf)|apply Eb|apply Ec|apply Ed|apply Ee|(apply Ei;intro _)|apply Ef e a
 all_goals(try dsimp only[Qf] at *)
 all_goals clear e a
 ·exact rfl
 ·exact QBX QHU
 ·exact QBX QEB
 ·exact .k [] [] _ rfl (Qj Qz6)
theorem QjE(a:List Bool)(cs:List Cv):Qby a cs []=false:=by
 cases a with
 |nil=>rfl
 |cons h a=>cases cs<;>rfl
theorem QcA{a:List Bool}{cs:List Cv}{ds:List Dv}{k:Nat}(x:a.length=cs.length)(y:k<cs.length):Qby (a.drop k) (cs.drop k) (ds.drop k) =
 ((a.getD k false&&(decide (k<ds.length)&&QaE (cs.getD k (dflt Qe)) (ds.getD k (dflt Qh))))||Qby (a.drop (k+1)) (cs.drop (k+1)) (ds.drop (k+1))):=by
 have e1:a.drop k=a.getD k false::a.drop (k+1):=by rw[YJ (show k<a.length by omega),Yd,Ye (show k<a.length by omega)];rfl
 have e2:cs.drop k=cs.getD k (dflt Qe)::cs.drop (k+1):=by rw[YJ y,Yd,Ye y];rfl
 by_cases h:k<ds.length
 ·have e3:ds.drop k=ds.getD k (dflt Qh)::ds.drop (k+1):=by rw[YJ h,Yd,Ye h];rfl
  rw[e1,e2,e3,Yl h];rfl
 ·rw[show ds.drop k=[] from Yk (by omega),show ds.drop (k+1)=[] from Yk (by omega),Yn h,QjE,QjE];simp
theorem QjF{a:List Bool}{cs:List Cv}{ds:List Dv}{k:Nat}(x:a.length=cs.length)(y:¬k<cs.length):Qby (a.drop k) (cs.drop k) (ds.drop k)=false:=by
 rw[show a.drop k=[] from Yk (by omega)];rfl
def QEk(b:Bd)(m:Mach):Prop:=bdP b∧∀d∈m.2.2.1,dP d
def QBP:PSpec:=⟨[gBd,gM],fun(b,m,_)=>(some (QEk b m),.cell (bv (QC b m.2.2.1)),[])⟩
theorem Qqv:G0 20 QBP.spec:=by
 have s:S0 _:=Qa QvB (Qa QDz (Qb (T:=tree)));have u:=tabs s Qc;refine QBP.gd u s Tryz.func20 fun(b:Bd) (m:Mach) hq=>?_
 obtain⟨E,C⟩:QEk b m:=hq _ rfl;clear hq;have z:QC b m.2.2.1=Qby (Qbo b.2.2.2 b.2.2.1) b.2.2.1 m.2.2.1:=rfl;have D:=E.2;have x:=E.1.1;have f:=Qdk b.2.2.2 b.2.2.1;have hH:∃h,h=Qbo b.2.2.2 b.2.2.1:=⟨_,rfl⟩
 obtain⟨bn,⟨un,ui,ur,uq,um⟩,e,w⟩:=b;obtain⟨tm,⟨r,op,at_,B⟩,ds,bd,ba,F⟩:=m;have z:QC (bn,(un,ui,ur,uq,um),e,w) ds=Qby (Qbo w e) e ds:=z;have D:∀c∈e,cP c∧c.1.size≤140737488351232:=D;have x:e.length*64≤140737488351232:=x;have C:∀d∈ds,dP d:=C;have f:(Qbo w e).length=e.length:=f
 repeat' first|(apply Ea;conv=>whnf)|apply Eb|apply Ec|apply Ed|apply Ee|(apply Ei;intro _)|apply Ef u s
 all_goals(try dsimp only[Qf] at *)
 ·exact E
 generalize hh:Qbo w e=a at *;rw[f]
 refine QA u s (A:=Unit) e.length (fun i _=>St.mk (E2 ((.cell (.ptr 0 0))::(.cell (.ptr 1 0))::E3 (E1 ((.cell (.own 2))::(I e.length)::(I i)::E20 (E5 (E1 []))))))
  [some (.var [.imm (.string bn),.imm (.string un),.ro Qap ui,.ro Qp ur,.ro Qp uq,.ro Qp um,.ro Qe e,.ro Qo w]),
   some (.var [.imm (.int .i64 tm),.run .i64 9 r,.imm (.int .i64 op),.imm (.int .i64 at_),.imm (.bool B),.ro Qh ds,.imm (.int .i64 bd),.imm (.int .i64 ba),.imm (.int .i64 F)]),some (.arr .bool a)])
  (fun k _=>Qby (a.drop k) (e.drop k) (ds.drop k)=Qby a e ds) () (Le.k [] [0,1,2] ?_) rfl fun k _ y t=>?_
 ·repeat' constructor
 repeat' first|(apply Ea;conv=>whnf)|apply Eb|apply Ec|apply Ed|apply Ee|(apply Ei;intro _)|apply Ef u s
 all_goals(try dsimp only[Qf] at *)
 all_goals clear u s
 ·rename_i g;show 0≤(k:Int)∧(k:Int)<(a.length:Int);have g:(k:Int)<(e.length:Int):=by assumption
  omega
 ·rename_i g;have g:(k:Int)<(e.length:Int):=by assumption
  show k<a.length;omega
 ·have g:(k:Int)<(e.length:Int):=by assumption
  show 0≤(k:Int)∧(k:Int)<(e.length:Int);omega
 ·rename_i g n;have n:(k:Int)<(ds.length:Int):=by assumption
  show 0≤(k:Int)∧(k:Int)<(ds.length:Int);omega
 ·rename_i j n p;have j:(k:Int)<(e.length:Int):=j;have p:(k:Int)<(ds.length:Int):=p;exact⟨(D _ (QK (dflt Qe) (show k<e.length by omega))).1,C _ (QK (dflt Qh) (show k<ds.length by omega))⟩
 ·rename_i j n p q;have j:(k:Int)<(e.length:Int):=j;have n:a.getD k (dflt .bool)=true:=n;have p:(k:Int)<(ds.length:Int):=p;have q:QaE (e.getD k (dflt Qe)) (ds.getD k (dflt Qh))=true:=q;refine .k [] [] _ rfl (Qj ?_);rw[z,←t,QcA f (by omega),q,Yl (show k<ds.length by omega),show a.getD k false=true from n];rfl
 ·rename_i j n p q;have j:(k:Int)<(e.length:Int):=j;have q:QaE (e.getD k (dflt Qe)) (ds.getD k (dflt Qh))=false:=q;apply Ex () [] [0,1,2]
  ·repeat' constructor
  ·omega
  ·exact QJ (by omega)
  rw[←t,QcA (k:=k) f (by omega),q];simp
 ·rename_i j n p;have j:(k:Int)<(e.length:Int):=j;have p:¬(k:Int)<(ds.length:Int):=p;apply Ex () [] [0,1,2]
  ·repeat' constructor
  ·omega
  ·exact QJ (by omega)
  rw[←t,QcA (k:=k) f (by omega),Yn (show¬k<ds.length by omega)];simp
 ·rename_i j n;have j:(k:Int)<(e.length:Int):=j;have n:a.getD k (dflt .bool)=false:=n;apply Ex () [] [0,1,2]
  ·repeat' constructor
  ·omega
  ·exact QJ (by omega)
  rw[←t,QcA (k:=k) f (by omega),show a.getD k false=false from n];simp
 ·rename_i j;have j:¬(k:Int)<(e.length:Int):=j;refine .k [] [] _ rfl (Qj ?_);rw[z,←t,QjF f (by omega)]
theorem QvP{n:Nat}{l:List Int}(h:l.length=n):over (List.replicate n 0) l 0=l:=by
 rw[QeZ,List.drop_zero,Jr,Nat.sub_zero,Yk (by simp[h]),Jd,Yh (by omega)]
theorem Qiz(c:Cv)(M:List Int):QaW c (QaW c M)=QaW c M:=QvP (Qkr c M)
theorem QiA(c:Cv)(N:List Int):memN c (memN c N)=memN c N:=by
 unfold memN;split
 ·show[N.getD 0 0%Qav c%Qav c]=_;rw[Ys]
 ·rfl
theorem QY(c:Cv)(d:Dv):QcX c (QcX c d)=QcX c d:=by
 show(memN c (memN c d.1),QaW c (QaW c d.2))=_;rw[QiA,Qiz];rfl
theorem Qdo(N:List Int):QaC (QaC N)=QaC N:=by
 show[N.getD 0 0%256%256,N.getD 1 0%256%256,N.getD 2 0%256%256]=_;rw[Ys,Ys,Ys];rfl
theorem QbY(M:List Int):vM (vM M)=vM M:=QCK (Qa0 M)
def itF(c:Cv)(d:Dv)(j:Nat):Dv:=sel c.2.1 (QcX c d) (Qa1 j (Qbk d.1),[]) (QaC d.1,[]) (Qr Qah j (Qbe d.1),[]) (Qr (QaV (vM d.2)) j (vN d.1),vM d.2) (Qr QaP j (Qao d.1),[]) (Qa9 Qay j (dN d.1 (qF d.2),dM d.2)) ([],[])
theorem Qhm(c:Cv)(d:Dv):itF c d 0=Q9 c d:=by
 obtain⟨b,e,g,cs,f⟩:=c;rcases kinds e with rfl|rfl|rfl|rfl|rfl|rfl|rfl|rfl|rfl|a
 all_goals first
  |rfl
  |(unfold itF Q9;rw[Qai a,Qai a])
theorem Qqp(c:Cv)(d:Dv)(k:Int):Qdg c d k=itF c d k.toNat:=by
 obtain⟨b,e,g,cs,f⟩:=c;rcases kinds e with rfl|rfl|rfl|rfl|rfl|rfl|rfl|rfl|rfl|a
 all_goals first
  |rfl
  |(unfold itF Qdg;rw[Qai a,Qai a])
theorem Qqq(c:Cv){d:Dv}(hu:u8s d.2)(j:Nat):Qg c (itF c d j)=itF c d (j+1):=by
 obtain⟨b,e,g,cs,f⟩:=c;obtain⟨N,M⟩:=d;rcases kinds e with rfl|rfl|rfl|rfl|rfl|rfl|rfl|rfl|rfl|a
 ·exact QY (b,0,g,cs,f) (N,M)
 ·exact QY (b,1,g,cs,f) (N,M)
 ·exact QY (b,2,g,cs,f) (N,M)
 ·show(QaJ (Qbk (Qa1 j (Qbk N))),([]:List Int))=(Qa1 (j+1) (Qbk N),[])
  rw[QfI,Qgt]
 ·show(QaC (QaC N),([]:List Int))=(QaC N,[])
  rw[Qdo]
 ·show(Qah (Qbe (Qr Qah j (Qbe N))),([]:List Int))=(Qr Qah (j+1) (Qbe N),[])
  rw[Qer,QX]
 ·show(QaV (vM (vM M)) (vN (Qr (QaV (vM M)) j (vN N))),vM (vM M))=(Qr (QaV (vM M)) (j+1) (vN N),vM M)
  rw[QbY,QgB,QX]
 ·show(QaP (Qao (Qr QaP j (Qao N))),([]:List Int))=(Qr QaP (j+1) (Qao N),[])
  rw[QgC,QX]
 ·show Qay (dN (Qa9 Qay j (dN N (qF M),dM M)).1 (qF (Qa9 Qay j (dN N (qF M),dM M)).2),dM (Qa9 Qay j (dN N (qF M),dM M)).2)=Qa9 Qay (j+1) (dN N (qF M),dM M);rw[QvO (Qg7 (QFM N hu) j),Qgr]
 ·unfold Qg itF;rw[Qai a,Qai a]
end Go.Proofs.YtofgbclopbmlcaaGreat

