/- Part 34 of the proof. Conditions: none. -/
import Derived.Test.YtofgbclopbmlcaaGreatG33
import Derived.Test.YtofgbclopbmlcaaGreatG32
import Derived.Test.YtofgbclopbmlcaaGreatG22
import Derived.Test.YtofgbclopbmlcaaGreatG26
import Derived.Test.YtofgbclopbmlcaaGreatG16
import Derived.Test.YtofgbclopbmlcaaGreatG29
import Derived.Test.YtofgbclopbmlcaaGreatG24
import Derived.Test.YtofgbclopbmlcaaGreatG31
import Derived.Test.YtofgbclopbmlcaaGreatG28
namespace Go.Proofs.YtofgbclopbmlcaaGreat
set_option maxHeartbeats 4000000
open Go.Fw
set_option linter.unusedVariables false
set_option linter.unusedSimpArgs false
set_option linter.constructorNameAsVariable false
set_option maxRecDepth 100000
def Qwh(pre:List Ins)(k:Nat)(prev:Int)(x:Ins):Int :=
 if x.1<0∨x.1>255 then 1 else if 0<k∧x.1≤prev then 9 else if QaK (bytesOf x.2.1)=false then 15 else if QcZ x.2.2.1<0 then 8
 else if pre.any (Qi6 x)=true then 5 else if QB x.2.2.2≠0 then QB x.2.2.2 else if Qi7 x.2.2.2≠QcZ x.2.2.1 then 3 else 0
def Qso(l:List Ins)(k:Nat):Int:=Qwh (l.take k) k (l.getD (k-1) (dflt Qap)).1 (l.getD k (dflt Qap))
theorem Qc2{x:Int}(h:(x != 0)=true):x≠0:=by simpa using h
theorem QaS{x:Int}(h:(x != 0)=false):x=0:=by simpa using h
theorem Qqy{pre:List Ins}{k:Nat}{pv xo xm:Int}{xs:ByteArray}{xc:List Cyc}(m:¬xo<0)(J:¬xo>255)(H:¬(0<k∧xo≤pv))(w:(!QaK (bytesOf xs))=false)(G:¬QcZ xm<0)(u:pre.any (Qi6 (xo,xs,xm,xc))=false)(F:(QB xc != 0)=true):Qwh pre k pv (xo,xs,xm,xc)=QB xc:=by
 unfold Qwh;rw[Yb (show¬(xo<0∨xo>255) from fun h=>h.elim m J),Yb (show¬(0<k∧xo≤pv) from H),Yb (show¬QaK (bytesOf xs)=false from fun h=>by rw[h] at w;cases w),Yb (show¬QcZ xm<0 from G),Yb (show¬pre.any (Qi6 (xo,xs,xm,xc))=true from fun h=>by rw[h] at u;cases u),Yf (show QB xc≠0 by simpa using F)]
theorem Qn2{pre:List Ins}{k:Nat}{pv xo xm:Int}{xs:ByteArray}{xc:List Cyc}(m:¬xo<0)(J:¬xo>255)(H:¬(0<k∧xo≤pv))(w:(!QaK (bytesOf xs))=false)(G:¬QcZ xm<0)(u:pre.any (Qi6 (xo,xs,xm,xc))=false)(F:(QB xc != 0)=false)(O:(Qi7 xc != QcZ xm)=true):Qwh pre k pv (xo,xs,xm,xc)=3:=by
 unfold Qwh;rw[Yb (show¬(xo<0∨xo>255) from fun h=>h.elim m J),Yb (show¬(0<k∧xo≤pv) from H),Yb (show¬QaK (bytesOf xs)=false from fun h=>by rw[h] at w;cases w),Yb (show¬QcZ xm<0 from G),Yb (show¬pre.any (Qi6 (xo,xs,xm,xc))=true from fun h=>by rw[h] at u;cases u),Yb (show¬QB xc≠0 by simpa using F),Yf (show Qi7 xc≠QcZ xm by simpa using O)]
theorem Qk1{pre:List Ins}{k:Nat}{pv xo xm:Int}{xs:ByteArray}{xc:List Cyc}(m:¬xo<0)(J:¬xo>255)(H:¬(0<k∧xo≤pv))(w:(!QaK (bytesOf xs))=false)(G:¬QcZ xm<0)(u:pre.any (Qi6 (xo,xs,xm,xc))=false)(F:(QB xc != 0)=false)(O:(Qi7 xc != QcZ xm)=false):Qwh pre k pv (xo,xs,xm,xc)=0:=by
 unfold Qwh;rw[Yb (show¬(xo<0∨xo>255) from fun h=>h.elim m J),Yb (show¬(0<k∧xo≤pv) from H),Yb (show¬QaK (bytesOf xs)=false from fun h=>by rw[h] at w;cases w),Yb (show¬QcZ xm<0 from G),Yb (show¬pre.any (Qi6 (xo,xs,xm,xc))=true from fun h=>by rw[h] at u;cases u),Yb (show¬QB xc≠0 by simpa using F),Yb (show¬Qi7 xc≠QcZ xm by simpa using O)]
def QiJ(l:List Ins):Int:=Qab (Qso l) (List.range l.length)
def Qi8(c:Cpu):Int:=Qab QB [c.2.2.1,c.2.2.2.1,c.2.2.2.2]
def QdU(c:Cpu):Int:=if QaK (bytesOf c.1)=false then 15 else if c.2.1.length>256 then 2 else if QiJ c.2.1≠0 then QiJ c.2.1 else Qi8 c
theorem QcB{n k:Nat}(h:k<n):(List.range n).getD k 0=k:=by
 rw[Yd,List.getElem?_range h];rfl
def Qk2:PSpec:=⟨[Qyu],fun(c,_)=>(none,I (QdU c),[])⟩
theorem Qwi:G0 101 Qk2.spec:=by
 have r:S0 _:=Qa QfM (Qa Qy5 (Qa QHz (Qa Qsl (Qa QzR (Qb (T:=tree))))));have t:=tabs r Qc;refine Qk2.gd t r Tryz.func101 fun(c:Cpu) _=>?_
 obtain⟨q,a,f,d,b⟩:=c
 repeat' first|(apply Ea;conv=>whnf)|apply Eb|apply Ec|apply Ed|apply Ee|(apply Ei;intro _)|apply Ef t r|apply Eg t r
 all_goals(try dsimp only[Qf] at *)
 ·rename_i g;have g:QaK (bytesOf q)=false:=by simpa using g
  refine .k [] [] _ rfl (Qd ?_);exact(Yf g:QdU (q,a,f,d,b)=15).symm
 ·rename_i g p;have g:QaK (bytesOf q)=true:=by simpa using g
  have p:(a.length:Int)>256:=p;refine .k [] [] _ rfl (Qd ?_);show 2=QdU (q,a,f,d,b);unfold QdU;rw[Yb (by rw[g];decide),Yf (by show a.length>256;omega)]
 rename_i j p;have j:QaK (bytesOf q)=true:=by simpa using j
 have hn:a.length≤256:=by have p:¬(a.length:Int)>256:=p;omega
 clear p
 have hC:∀e:Int,e≠0→QiJ a=e→e=QdU (q,a,f,d,b):=fun e s m=>by
  unfold QdU;rw[Yb (by rw[j];decide),Yb (by show¬a.length>256;omega),Yf (by rw[m];exact s)];exact m.symm
 have D:QiJ a=0→Qi8 (q,a,f,d,b)=QdU (q,a,f,d,b):=fun m=>by
  unfold QdU;rw[Yb (by rw[j];decide),Yb (by show¬a.length>256;omega),Yb (by rw[m];decide)]
 refine QA t r (A:=Unit) a.length (fun i _=>St.mk (E1 ((.cell (.ptr 0 0))::E10 (E5 (E3 ((.cell (.ro Qap a))::(I a.length)::(I i)::E40 (E20 (E10 (E5 (E2 [])))))))))
  [some (.var [.imm (.string q),.ro Qap a,.ro Qp f,.ro Qp d,.ro Qp b])])
  (fun k _=>Qab (Qso a) ((List.range a.length).drop k)=QiJ a) () (Le.k [] [0] ?_) rfl fun k _ z K=>?_
 ·repeat' constructor
 have B:∀e:Int,e≠0→Qso a k=e→k<a.length→e=QdU (q,a,f,d,b):=fun e s m z=>by
  refine hC e s ?_;have M:k<(List.range a.length).length:=by rw[YS];exact z
  have e1:=QcB z;rw[←K,QaM 0 M (by rw[e1,m];exact s),e1,m]
 have E:Qso a k=0→k<a.length→Qab (Qso a) ((List.range a.length).drop (k+1))=QiJ a:=fun m z=>by
  have M:k<(List.range a.length).length:=by rw[YS];exact z
  rw[←K,Qa4 0 M (by rw[QcB z,m])]
 repeat' first|(apply Ea;conv=>whnf)|apply Eb|apply Ec|apply Ed|apply Ee|(apply Ei;intro _)|apply Ef t r|apply Eg t r
 all_goals(try dsimp only[Qf] at *)
 all_goals(have hp:(IntKind.i64.wrap ((k:Int)-1)).toNat=k-1:=by rw[w64 (by omega) (by omega)];omega)
 all_goals(generalize hx:a.getD (k:Int).toNat (dflt Qap)=x at *;obtain⟨xo,xs,xm,xc⟩:=x)
 all_goals(have C:a.getD k (dflt Qap)=(xo,xs,xm,xc):=hx)
 all_goals(have hI:Qso a k=Qwh (a.take k) k (a.getD (k-1) (dflt Qap)).1 (xo,xs,xm,xc):=by unfold Qso;rw[C])
 all_goals(have N:(a.take (k:Int).toNat).drop 0=a.take k:=rfl)
 all_goals(rw[hI] at B E)
 all_goals(try simp only[hp] at *)
 all_goals(generalize(a.getD (k-1) (dflt Qap)).1=pv at *)
 all_goals(try rw[N] at *)
 all_goals first
  |exact .k [] [] _ rfl (Qd (B _ (Qc2 (x:=QB xc) (by assumption)) (Qqy (by assumption) (by assumption) (fun h=>by omega) (by assumption) (by assumption) (by assumption) (by assumption)) (by omega)))
  |exact .k [] [] _ rfl (Qd (B _ (by decide) (Qn2 (by assumption) (by assumption) (fun h=>by omega) (by assumption) (by assumption) (by assumption) (by assumption) (by assumption)) (by omega)))
  |(refine .k [] [] _ rfl (Qd (B _ ?_ ?_ (by omega)))
    ·first
      |decide
      |(have s:(QB xc != 0)=true:=by assumption
        simpa using s)
    ·clear t r B E hC D K hx C hI;simp[Qwh] at *
     try first
      |omega
      |(simp_all;done)
      |(simp_all;omega))
  |(show 0≤(k:Int)∧(k:Int)<(a.length:Int)
    omega)
  |(show 0≤(k:Int)∧(k:Int)≤(a.length:Int)
    omega)
  |(show 0≤IntKind.i64.wrap ((k:Int)-1)∧IntKind.i64.wrap ((k:Int)-1)<(a.length:Int)
    rw[w64 (by omega) (by omega)];omega)
  |(refine⟨?_,trivial⟩
    show((a.take k).drop 0).length≤4611686018427387904
    rw[List.drop_zero,Yq];omega)
  |(have s:(QB xc != 0)=false:=by assumption
    show xc.length≤1000;have m:QB xc=0:=by simpa using s
    unfold QB at m;split at m
    ·cases m
    ·omega)
  |skip
 ·apply Ex () [] [0]
  ·repeat' constructor
  ·omega
  ·exact QJ (by omega)
  exact E (Qk1 (by assumption) (by assumption) (fun h=>by omega) (by assumption) (by assumption) (by assumption) (by assumption) (by assumption)) (by omega)
 ·apply Ex () [] [0]
  ·repeat' constructor
  ·omega
  ·exact QJ (by omega)
  exact E (Qk1 (by assumption) (by assumption) (fun h=>by omega) (by assumption) (by assumption) (by assumption) (by assumption) (by assumption)) (by omega)
 have s:QiJ a=0:=by
  rw[←K,Yk (by rw[YS];omega)];rfl
 have L:=D s;clear B E;refine QP 4 ?_
 repeat' first|(apply Ea;conv=>whnf)|apply Eb|apply Ec|apply Ed|apply Ee|(apply Ei;intro _)|apply Ef t r|apply Eg t r
 ·exact Ya rfl
 ·exact Ya rfl
 ·rename_i j;have j:(QB f != 0)=true:=j;refine .k [] [] _ rfl (Qd ?_);show QB f=QdU (q,a,f,d,b);rw[←L];exact(Yb (Qc2 j):Qi8 (q,a,f,d,b)=QB f).symm
 ·exact Ya rfl
 ·exact Ya rfl
 ·rename_i j p;have j:(QB f != 0)=false:=j;have p:(QB d != 0)=true:=p;refine .k [] [] _ rfl (Qd ?_);show QB d=QdU (q,a,f,d,b);rw[←L];exact(((Yf (QaS j):Qi8 (q,a,f,d,b)=Qab QB [d,b])).trans (Yb (Qc2 p))).symm
 ·exact Ya rfl
 ·exact Ya rfl
 ·rename_i j p y;have j:(QB f != 0)=false:=j;have p:(QB d != 0)=false:=p;have y:(QB b != 0)=true:=y;refine .k [] [] _ rfl (Qd ?_);show QB b=QdU (q,a,f,d,b);rw[←L];exact((((Yf (QaS j):Qi8 (q,a,f,d,b)=Qab QB [d,b])).trans (Yf (QaS p):Qab QB [d,b]=Qab QB [b])).trans (Yb (Qc2 y))).symm
 ·rename_i j p y;have j:(QB f != 0)=false:=j;have p:(QB d != 0)=false:=p;have y:(QB b != 0)=false:=y;refine .k [] [] _ rfl (Qd ?_);show 0=QdU (q,a,f,d,b);rw[←L];exact((((Yf (QaS j):Qi8 (q,a,f,d,b)=Qab QB [d,b])).trans (Yf (QaS p):Qab QB [d,b]=Qab QB [b])).trans (Yf (QaS y):Qab QB [b]=Qab QB [])).symm
def bdP(b:Bd):Prop:=(b.2.2.1.length*64≤140737488351232∧b.2.2.2.length*32≤140737488351232)∧∀c∈b.2.2.1,cP c∧c.1.size≤140737488351232
theorem Qmy{α:Type}{l:List α}{k:Nat}(d:α)(h:k<l.length):l.take (k+1)=l.take k++[l.getD k d]:=by
 rw[Je,Yd,Ye h];rfl
def Qbo(w:List Wr)(l:List Cv):List Bool:=l.map fun c=>Qip c.2.1&&w.any (Qdi c)
theorem Qdk(w:List Wr)(l:List Cv):(Qbo w l).length=l.length:=Jf ..
def QfU(w:List Wr)(l:List Cv)(k:Nat):List Bool:=Qbo w (l.take k)++List.replicate (l.length-k) false
theorem QjA{w:List Wr}{l:List Cv}{k:Nat}(h:k<l.length){b:Bool}(F:(Qip (l.getD k (dflt Qe)).2.1&&w.any (Qdi (l.getD k (dflt Qe))))=b):(QfU w l k).set k b=QfU w l (k+1):=by
 have r:(Qbo w (l.take k)).length=k:=by rw[Qdk,Yq];omega
 have e:l.length-k=(l.length-(k+1))+1:=by omega
 unfold QfU;rw[e,List.replicate_succ,Jq,Yb (by omega),r,Jk,Ji,Qmy (dflt Qe) h];unfold Qbo;rw[List.map_append,Jb,List.map_nil,F];simp
theorem Qey(w:List Wr)(l:List Cv){k:Nat}(h:k≤l.length):(QfU w l k).length=l.length:=by
 unfold QfU;rw[Ym,Qdk,Yq,Jr];omega
def Qqh:PSpec:=⟨[gBd],fun(b,_)=>(some (bdP b),.cell (.own 0),[.arr .bool (Qbo b.2.2.2 b.2.2.1)])⟩
theorem QvB:G0 66 Qqh.spec:=by
 have n:S0 _:=Qa Qp7 (Qa QGY (Qb (T:=tree)));have p:=tabs n Qc;refine Qqh.gd p n Tryz.func66 fun(b:Bd) u=>?_
 obtain⟨⟨r,t⟩,s⟩:bdP b:=u _ rfl;obtain⟨G,⟨C,E,z,B,D⟩,a,m⟩:=b;have r:a.length*64≤140737488351232:=r;have t:m.length*32≤140737488351232:=t;have s:∀c∈a,cP c∧c.1.size≤140737488351232:=s;clear u
 repeat' first|(apply Ea;conv=>whnf)|apply Eb|apply Ec|apply Ed|apply Ee|(apply Ei;intro _)|apply Ef p n
 ·show(a.length:Int)=a.length∧0≤(a.length:Int)∧(a.length:Int)*1≤281474976710656∧(a.length:Int)≤281474976710656;omega
 refine QA p n (A:=List Bool) a.length (fun i o=>St.mk (E1 ((.cell (.ptr 0 0))::E1 ((.cell (.own 1))::E5 (E2 ((.cell (.ro Qe a))::(I a.length)::(I i)::E10 (E5 (E3 [])))))))
  [some (.var [.imm (.string G),.imm (.string C),.ro Qap E,.ro Qp z,.ro Qp B,.ro Qp D,.ro Qe a,.ro Qo m]),some (.arr .bool o)])
  (fun k o=>o=QfU m a k) (List.replicate (a.length:Int).toNat false) (Le.k [] [0,1] ?_) (by unfold QfU Qbo;simp) fun k o y j=>?_
 ·repeat' constructor
 repeat' first|(apply Ea;conv=>whnf)|apply Eb|apply Ec|apply Ed|apply Ee|(apply Ei;intro _)|apply Ef p n
 all_goals(try dsimp only[Qf] at *)
 all_goals clear p n
 ·rename_i f;have f:(k:Int)<(a.length:Int):=f;show 0≤(k:Int)∧(k:Int)<(a.length:Int);omega
 ·rename_i f g;have f:(k:Int)<(a.length:Int):=f;have:=(s _ (QK (dflt Qe) (show k<a.length by omega))).2;refine⟨by omega,?_⟩;show(a.getD k (dflt Qe)).1.size<4611686018427387900;omega
 ·rename_i f g;have f:(k:Int)<(a.length:Int):=f;have:=Qey m a y;show 0≤(k:Int)∧(k:Int)<(o.length:Int);rw[j];omega
 ·rename_i f g;have f:(k:Int)<(a.length:Int):=f;have:=Qey m a y;show k<o.length;rw[j];omega
 ·rename_i f g;have f:(k:Int)<(a.length:Int):=f;have g:Qip (a.getD k (dflt Qe)).2.1=true:=g;apply Ex _ [] [0,1]
  ·repeat' constructor
  ·omega
  ·exact QJ (by omega)
  rw[j];exact QjA (by omega) (by rw[g];rfl)
 ·rename_i f g;have f:(k:Int)<(a.length:Int):=f;have:=Qey m a y;show 0≤(k:Int)∧(k:Int)<(o.length:Int);rw[j];omega
 ·rename_i f g;have f:(k:Int)<(a.length:Int):=f;have:=Qey m a y;show k<o.length;rw[j];omega
 ·rename_i f g;have f:(k:Int)<(a.length:Int):=f;have g:Qip (a.getD k (dflt Qe)).2.1=false:=g;apply Ex _ [] [0,1]
  ·repeat' constructor
  ·omega
  ·exact QJ (by omega)
  rw[j];exact QjA (by omega) (by rw[g];rfl)
 ·rename_i f;have f:¬(k:Int)<(a.length:Int):=f;refine .mk [] [1] _ R R R R R ?_ rfl;have e:k=a.length:=by omega
  have e2:QfU m a k=Qbo m a:=by
   unfold QfU;rw[e,List.take_length,Jk];simp
  rw[j,e2];rfl
theorem Qiv{w:List Wr}{l:List Cv}{k:Nat}(h:k<l.length){b:Bool}(F:(Qip (l.getD k (dflt Qe)).2.1&&w.any (Qdi (l.getD k (dflt Qe))))=b):Qbo w (l.take k)++[b]=Qbo w (l.take (k+1)):=by
 unfold Qbo;rw[Qmy (dflt Qe) h,List.map_append,Jb,List.map_nil,F]
theorem QrV(c:Cv)(w:List Wr):w.any (Qdi c)=w.any (Qc0 (c.1++Qhg,Qbn)):=by
 have e:Qdi c=Qc0 (c.1++Qhg,Qbn):=by
  funext x
  have h1:Qm x.1 (c.1++Qhg)=Qm (c.1++Qhg) x.1:=by
   rw[YI,QF,QF];exact eq_comm
  have h2:Qm x.2 Qbn=Qm Qbn x.2:=by
   rw[YI,QF,QF];exact eq_comm
  show(bif Qm x.1 (c.1++Qhg) then Qm x.2 Qbn else false)=(Qm (c.1++Qhg) x.1&&Qm Qbn x.2)
  rw[h1,h2];cases Qm (c.1++Qhg) x.1<;>rfl
 rw[e]
theorem QnS:G0 15 Qqh.spec:=by
 have n:S0 _:=Qa QeQ (Qa QvA (Qb (T:=tree)));have p:=tabs n Qc;refine Qqh.gd p n Tryz.func15 fun(b:Bd) u=>?_
 obtain⟨⟨r,t⟩,s⟩:bdP b:=u _ rfl;obtain⟨G,⟨C,E,z,B,D⟩,a,m⟩:=b;have r:a.length*64≤140737488351232:=r;have t:m.length*32≤140737488351232:=t;have s:∀c∈a,cP c∧c.1.size≤140737488351232:=s;clear u
 repeat' first|(apply Ea;conv=>whnf)|apply Eb|apply Ec|apply Ed|apply Ee|(apply Ei;intro _)|apply Ef p n
 refine QA p n (A:=List Bool) a.length (fun i o=>St.mk (E1 ((.cell (.ptr 0 0))::E1 ((.cell (.own 1))::E3 ((.cell (.ro Qe a))::(I a.length)::(I i)::E20 []))))
  [some (.var [.imm (.string G),.imm (.string C),.ro Qap E,.ro Qp z,.ro Qp B,.ro Qp D,.ro Qe a,.ro Qo m]),some (.arr .bool o)])
  (fun k o=>o=Qbo m (a.take k)) [] (.trans (Le.nil 3 .bool rfl) (Le.k [] [0,1] ?_)) rfl fun k o y j=>?_
 ·repeat' constructor
 repeat' first|(apply Ea;conv=>whnf)|apply Eb|apply Ec|apply Ed|apply Ee|(apply Ei;intro _)|apply Ef p n
 all_goals(try dsimp only[Qf] at *)
 all_goals clear p n
 all_goals(have q:(Qbo m (a.take k)).length=k:=by rw[Qdk,Yq];omega)
 ·rename_i f;have f:(k:Int)<(a.length:Int):=f;show 0≤(k:Int)∧(k:Int)<(a.length:Int);omega
 ·rename_i f g;have f:(k:Int)<(a.length:Int):=f;have:=(s _ (QK (dflt Qe) (show k<a.length by omega))).2;show(a.getD k (dflt Qe)).1.size+4<4611686018427387904;omega
 ·omega
 ·rename_i f g;have f:(k:Int)<(a.length:Int):=f;show(o.length+1)*1≤140737488355328;rw[j,q];omega
 ·rename_i f g;have f:(k:Int)<(a.length:Int):=f;have g:Qip (a.getD k (dflt Qe)).2.1=true:=g;apply Ex _ [] [0,4]
  ·repeat' constructor
  ·omega
  ·exact QJ (by omega)
  rw[j];exact Qiv (by omega) (by rw[g,Bool.true_and,QrV];rfl)
 ·rename_i f g;have f:(k:Int)<(a.length:Int):=f;show(o.length+1)*1≤140737488355328;rw[j,q];omega
 ·rename_i f g;have f:(k:Int)<(a.length:Int):=f;have g:Qip (a.getD k (dflt Qe)).2.1=false:=g;apply Ex _ [] [0,4]
  ·repeat' constructor
  ·omega
  ·exact QJ (by omega)
  rw[j];exact Qiv (by omega) (by rw[g];rfl)
 ·rename_i f;have f:¬(k:Int)<(a.length:Int):=f;refine .mk [] [1] _ R R R R R ?_ rfl;rw[Yh (by omega)] at j;rw[j];rfl
def QnU(m:Mach)(b:Nat):AV:=.agg [iv .i64 m.1,.run .i64 9 m.2.1.1,iv .i64 m.2.1.2.1,iv .i64 m.2.1.2.2.1,bv m.2.1.2.2.2,.own b,iv .i64 m.2.2.2.1,iv .i64 m.2.2.2.2.1,iv .i64 m.2.2.2.2.2]
def Qw9(l:List Dv):Prop:=l.length*48≤140737488351232∧∀x∈l,List.length x.1*8≤140737488351232∧List.length x.2*1≤140737488351232
def QBF:PSpec:=⟨[gM],fun(m,_)=>(some (Qw9 m.2.2.1),QnU m 0,[.arr Qh m.2.2.1])⟩
theorem QkT:G0 69 QBF.spec:=by
 have a:S0 _:=Qa Qqi (Qa Qzs (Qa QvD (Qb (T:=tree))));have c:=tabs a Qc;refine QBF.gd c a Tryz.func69 fun(m:Mach) j=>?_
 obtain⟨t,s⟩:Qw9 m.2.2.1:=j _ rfl;clear j;obtain⟨tm,⟨r,op,at_,d⟩,ds,bd,u,f⟩:=m;have t:ds.length*48≤140737488351232:=t;have s:∀x∈ds,List.length x.1*8≤140737488351232∧List.length x.2*1≤140737488351232:=s
 repeat' first|(apply Ea;conv=>whnf)|apply Eb|apply Ec|apply Ed|apply Ee|(apply Ei;intro _)|apply Ef c a
 all_goals(try dsimp only[Qf] at *)
 ·exact t
 refine QA c a (A:=Unit) ds.length (fun i _=>St.mk (E1 ((.cell (.ptr 0 0))::(.cell (.ptr 1 0))::E5 (E2 ((.cell (.own 2))::(I ds.length)::(I i)::E10 (E5 (E2 []))))))
  [some (.var [.imm (.int .i64 tm),.run .i64 9 r,.imm (.int .i64 op),.imm (.int .i64 at_),.imm (.bool d),.own 2,.imm (.int .i64 bd),.imm (.int .i64 u),.imm (.int .i64 f)]),
   some (.var [.imm (.int .i64 0),.run .i64 9 (List.replicate 9 0),.imm (.int .i64 0),.imm (.int .i64 0),.imm (.bool false),.imm (.slice none 0 0),.imm (.int .i64 0),.imm (.int .i64 0),.imm (.int .i64 0)]),some (.arr Qh ds)])
  (fun k _=>True) () (Le.k [] [0,1,2] ?_) trivial fun k _ hk _=>?_
 ·repeat' constructor
 repeat' first|(apply Ea;conv=>whnf)|apply Eb|apply Ec|apply Ed|apply Ee|(apply Ei;intro _)|apply Ef c a
 all_goals(try dsimp only[Qf] at *)
 all_goals clear c a
 ·rename_i g;show 0≤(k:Int)∧(k:Int)<(ds.length:Int);omega
 ·rename_i g;show k<ds.length;omega
 ·rename_i g;exact(s _ (QK (dflt Qh) (show k<ds.length by omega))).1
 ·rename_i g;exact(s _ (QK (dflt Qh) (show k<ds.length by omega))).2
 ·rename_i g;show 0≤(k:Int)∧(k:Int)<(ds.length:Int);omega
 ·rename_i g;show k<ds.length;omega
 ·rename_i g;have g1:(k:Int)<(ds.length:Int):=g;apply Yw;apply Yw ();refine Yo (Yo ?lt (Yo ?ei trivial)) (Le.mk [] [0,1,2] R R ?hh ?ht)
  case hh=>exact Yv (fun z=>[some (.var [.imm (.int .i64 tm),.run .i64 9 r,.imm (.int .i64 op),.imm (.int .i64 at_),.imm (.bool d),.own 2,.imm (.int .i64 bd),.imm (.int .i64 u),.imm (.int .i64 f)]),
   some (.var [.imm (.int .i64 0),.run .i64 9 (List.replicate 9 0),.imm (.int .i64 0),.imm (.int .i64 0),.imm (.bool false),.imm (.slice none 0 0),.imm (.int .i64 0),.imm (.int .i64 0),.imm (.int .i64 0)]),some (Blk.arr Qh z)]) (QfT ds k (dflt Qh))
  case ht=>repeat' constructor
  case lt=>omega
  case ei=>exact QJ (by omega)
 ·exact .k [] [2] _ R R
noncomputable def Qzv(m n:Mach):Bool:=eqB m n
noncomputable def QvG:PSpec:=⟨[gM,gM],fun(m,n,_)=>(some ((QcY m∧Qm3 m)∧QcY n∧Qm3 n),.cell (bv (Qzv m n)),[])⟩
theorem QvH{m n:Mach}(q:QcY m∧Qm3 m)(p:QcY n∧Qm3 n):Qm (Qm4 (Qmr m)) (Qm4 (Qmr n))=Qzv m n:=by
 by_cases e:m=n
 ·subst e;show Qm _ _=eqB m m;rw[Qzr rfl];exact(Lib.bytes_beq_iff _ _).2 rfl
 ·show Qm _ _=eqB m n;rw[QD5 e,Bool.eq_false_iff];intro h;exact e (QvF q.1.2.2.1 p.1.2.2.1 (QvE (Qqk q.2) (Qqk p.2) ((Lib.bytes_beq_iff _ _).1 h)))
theorem QfV:G0 19 QvG.spec:=by
 have a:S0 _:=Qa QuX (Qb (T:=tree));have c:=tabs a Qc;refine QvG.gd c a Tryz.func19 fun(m n:Mach) j=>?_
 obtain⟨q,p⟩:(QcY m∧Qm3 m)∧QcY n∧Qm3 n:=j _ rfl;clear j;have e:=QvH q p;obtain⟨tm,⟨r,op,at_,d⟩,ds,bd,u,f⟩:=m;obtain⟨tm',⟨r',op',at',nmi'⟩,ds',bd',ba',bdt'⟩:=n
 repeat' first|(apply Ea;conv=>whnf)|apply Eb|apply Ec|apply Ed|apply Ee|(apply Ei;intro _)|apply Ef c a
 all_goals(try dsimp only[Qf] at *)
 all_goals clear c a
 ·exact q.1
 ·exact p.1
 ·exact .k [] [] _ rfl (Qj e)
def adI(a:Int):Int:=a%2 ^ Int.toNat 16
theorem QHo(a:Int):adI a=a%65536:=rfl
theorem QHp(a:Int):0≤adI a∧adI a<65536:=by rw[QHo];omega
def fI(b:Bd)(a:Int):Int:=if 0≤Qn b a then Qn b a else 0
def QrW(b:Bd)(a:Int):Bool:=decide (0≤Qn b a)
theorem QeU{b:Bd}{a:Int}(h:(!QrW b a)=false):(0≤Qn b a∧Qn b a<b.2.2.1.length)∧fI b a=Qn b a:=by
 have C:0≤Qn b a:=by
  by_cases C:0≤Qn b a
  ·exact C
  ·unfold QrW at h;rw[Yn C] at h;cases h
 have hF:Qn b a=-1∨(0≤Qn b a∧Qn b a<b.2.2.1.length):=QkI (Qgx a) b.2.2.1;exact⟨by omega,Yf C⟩
theorem QHq{b:Bd}{a:Int}(h:(!QrW b a)=true):¬0≤Qn b a:=fun C=>by
 unfold QrW at h;rw[Yl C] at h;cases h
def QD9:PSpec:=⟨[gBd,gi],fun(b,a,_)=>(some (bP b a),.tup [I1 (fI b a),I1 (atF b a),.c (bv (QrW b a))],[])⟩
theorem Qef:G0 93 QD9.spec:=Qy8
def QsD(b:Bd)(a:Int):Cv:=b.2.2.1.getD (Qn b (adI a)).toNat (dflt Qe)
def QLX(b:Bd)(m:Mach)(a:Int):Dv:=m.2.2.1.getD (Qn b (adI a)).toNat (dflt Qh)
def QkU(b:Bd)(m:Mach)(a:Int):Prop:=(0≤Qn b (adI a)∧Qn b (adI a)<(m.2.2.1.length:Nat))∧0≤(QsD b a).2.1∧(QsD b a).2.1≤2
instance (b:Bd) (m:Mach) (a:Int):Decidable (QkU b m a):=by unfold QkU;infer_instance
def QnV(b:Bd)(m:Mach)(a:Int):Int:=if QkU b m a then loadI (QsD b a) (QLX b m a) (adI a-(QsD b a).2.2.1) else 255
def Qi5(b:Bd)(m:Mach)(a k:Int):Mach:=if QkU b m a then (m.1,m.2.1,m.2.2.1.set (Qn b (adI a)).toNat (Qbg (QsD b a) (QLX b m a) (adI a-(QsD b a).2.2.1) k),m.2.2.2) else m
def QrX(b:Bd)(m:Mach):Prop:=(b.2.2.1.length*64≤140737488351232∧∀c∈b.2.2.1,cP c)∧Qw9 m.2.2.1∧∀d∈m.2.2.1,dP d
theorem QvI{b:Bd}{m:Mach}(h:QrX b m)(a:Int):bP b (adI a):=by
 have:=QHp a;exact⟨by have:=h.1.1;omega,⟨by omega,by omega⟩,fun c hc=>⟨(h.1.2 c hc).1,(h.1.2 c hc).2.1⟩⟩
theorem QBG{b:Bd}{a:Int}(h:0≤Qn b (adI a)):atF b (adI a)=adI a-(QsD b a).2.2.1:=Yf h
def QBH:PSpec:=⟨[gBd,gM,gi],fun(b,m,a,_)=>(some (QrX b m),I (QnV b m a),[])⟩
theorem Qzw:G0 45 QBH.spec:=by
 have F:S0 _:=Qa QU (Qa Qef (Qa Qky (Qb (T:=tree))));have H:=tabs F Qc;refine QBH.gd H F Tryz.func45 fun(b:Bd) (m:Mach) (a:Int) L=>?_
 have D:QrX b m:=L _ rfl;have G:=QvI D a;have E:=@QBG b a;obtain⟨⟨C,K⟩,h3,J⟩:=D;clear L;obtain⟨s,⟨j,p,g,i,n⟩,f,q⟩:=b;obtain⟨tm,⟨r,op,at_,w⟩,ds,bd,B,x⟩:=m;have C:f.length*64≤140737488351232:=C;have K:∀c∈f,cP c:=K;have J:∀d∈ds,dP d:=J
 repeat' first|(apply Ea;conv=>whnf)|apply Eb|apply Ec|apply Ed|apply Ee|(apply Ei;intro _)|apply Ef H F
 all_goals(try dsimp only[Qf] at *)
 all_goals clear H F
 ·exact Ya rfl
 ·exact G
 ·rename_i t;have t:=QHq (a:=adI a) t;refine .k [] [] _ rfl (Qd ?_);exact(Yb fun h=>t h.1.1:QnV (s,(j,p,g,i,n),f,q) (tm,(r,op,at_,w),ds,bd,B,x) a=255).symm
 ·rename_i t u;obtain⟨⟨f1,f2⟩,f3⟩:=QeU (a:=adI a) t;have u:fI (s,(j,p,g,i,n),f,q) (adI a)≥(ds.length:Int):=u;rw[f3] at u;refine .k [] [] _ rfl (Qd ?_);exact(Yb fun h=>by have h:=h.1.2;have h:Qn (s,(j,p,g,i,n),f,q) (adI a)<(ds.length:Nat):=h;omega:QnV (s,(j,p,g,i,n),f,q) (tm,(r,op,at_,w),ds,bd,B,x) a=255).symm
 ·rename_i t u;obtain⟨⟨f1,f2⟩,f3⟩:=QeU (a:=adI a) t;show 0≤fI (s,(j,p,g,i,n),f,q) (adI a)∧fI (s,(j,p,g,i,n),f,q) (adI a)<(f.length:Int);rw[f3];exact⟨f1,f2⟩
 ·rename_i t u y;obtain⟨⟨f1,f2⟩,f3⟩:=QeU (a:=adI a) t;have y:(f.getD (fI (s,(j,p,g,i,n),f,q) (adI a)).toNat (dflt Qe)).2.1<0:=y;rw[f3] at y;refine .k [] [] _ rfl (Qd ?_);exact(Yb fun h=>by have h:=h.2.1;have y:(QsD (s,(j,p,g,i,n),f,q) a).2.1<0:=y;omega:QnV (s,(j,p,g,i,n),f,q) (tm,(r,op,at_,w),ds,bd,B,x) a=255).symm
 ·rename_i t u y;obtain⟨⟨f1,f2⟩,f3⟩:=QeU (a:=adI a) t;show 0≤fI (s,(j,p,g,i,n),f,q) (adI a)∧fI (s,(j,p,g,i,n),f,q) (adI a)<(f.length:Int);rw[f3];exact⟨f1,f2⟩
 ·rename_i t u y A;obtain⟨⟨f1,f2⟩,f3⟩:=QeU (a:=adI a) t;have A:(f.getD (fI (s,(j,p,g,i,n),f,q) (adI a)).toNat (dflt Qe)).2.1>2:=A;rw[f3] at A;refine .k [] [] _ rfl (Qd ?_);exact(Yb fun h=>by have h:=h.2.2;have A:(QsD (s,(j,p,g,i,n),f,q) a).2.1>2:=A;omega:QnV (s,(j,p,g,i,n),f,q) (tm,(r,op,at_,w),ds,bd,B,x) a=255).symm
 ·rename_i t u y A;obtain⟨⟨f1,f2⟩,f3⟩:=QeU (a:=adI a) t;show 0≤fI (s,(j,p,g,i,n),f,q) (adI a)∧fI (s,(j,p,g,i,n),f,q) (adI a)<(f.length:Int);rw[f3];exact⟨f1,f2⟩
 ·rename_i t u y A;obtain⟨⟨f1,f2⟩,f3⟩:=QeU (a:=adI a) t;have u:¬fI (s,(j,p,g,i,n),f,q) (adI a)≥(ds.length:Int):=u;show 0≤fI (s,(j,p,g,i,n),f,q) (adI a)∧fI (s,(j,p,g,i,n),f,q) (adI a)<(ds.length:Int);rw[f3] at u ⊢;omega
 ·rename_i t u y A;obtain⟨⟨f1,f2⟩,f3⟩:=QeU (a:=adI a) t;have u:¬fI (s,(j,p,g,i,n),f,q) (adI a)≥(ds.length:Int):=u;have f2:Qn (s,(j,p,g,i,n),f,q) (adI a)<(f.length:Int):=f2;show cP (f.getD (fI (s,(j,p,g,i,n),f,q) (adI a)).toNat (dflt Qe))∧dP (ds.getD (fI (s,(j,p,g,i,n),f,q) (adI a)).toNat (dflt Qh));rw[f3] at u ⊢;exact⟨K _ (QK _ (by omega)),J _ (QK _ (by omega))⟩
 ·rename_i t u y A;obtain⟨⟨f1,f2⟩,f3⟩:=QeU (a:=adI a) t;have u:¬fI (s,(j,p,g,i,n),f,q) (adI a)≥(ds.length:Int):=u;have y:¬(f.getD (fI (s,(j,p,g,i,n),f,q) (adI a)).toNat (dflt Qe)).2.1<0:=y;have A:¬(f.getD (fI (s,(j,p,g,i,n),f,q) (adI a)).toNat (dflt Qe)).2.1>2:=A;rw[f3] at u y A;refine .k [] [] _ rfl (Qd ?_);show loadI (f.getD (fI (s,(j,p,g,i,n),f,q) (adI a)).toNat (dflt Qe)) (ds.getD (fI (s,(j,p,g,i,n),f,q) (adI a)).toNat (dflt Qh)) (atF (s,(j,p,g,i,n),f,q) (adI a))=_;rw[f3,E f1];exact(Yf ⟨⟨f1,by show _<(ds.length:Int);omega⟩,by show 0≤(QsD (s,(j,p,g,i,n),f,q) a).2.1;have y:¬(QsD (s,(j,p,g,i,n),f,q) a).2.1<0:=y;omega,by have A:¬(QsD (s,(j,p,g,i,n),f,q) a).2.1>2:=A;omega⟩:QnV (s,(j,p,g,i,n),f,q) (tm,(r,op,at_,w),ds,bd,B,x) a=_).symm
theorem Qc1{b:Bd}{a:Int}(C:0≤Qn b a):Qn b a<b.2.2.1.length∧fI b a=Qn b a:=by
 have hF:Qn b a=-1∨(0≤Qn b a∧Qn b a<b.2.2.1.length):=QkI (Qgx a) b.2.2.1;exact⟨by omega,Yf C⟩
def QBI:PSpec:=⟨[gBd,gM,gi,gi],fun(b,m,a,k,_)=>(some (QrX b m),QnU (Qi5 b m a k) 0,[.arr Qh (Qi5 b m a k).2.2.1])⟩
theorem Qzx:G0 46 QBI.spec:=by
 have F:S0 _:=Qa QkT (Qa QU (Qa Qef (Qa Qii (Qb (T:=tree)))));have H:=tabs F Qc;refine QBI.gd H F Tryz.func46 fun(b:Bd) (m:Mach) (a k:Int) L=>?_
 have D:QrX b m:=L _ rfl;have G:=QvI D a;have E:=@QBG b a;obtain⟨⟨C,K⟩,h3,J⟩:=D;clear L;obtain⟨s,⟨j,p,g,i,n⟩,f,q⟩:=b;obtain⟨tm,⟨r,op,at_,w⟩,ds,bd,B,x⟩:=m;have C:f.length*64≤140737488351232:=C;have K:∀c∈f,cP c:=K;have J:∀d∈ds,dP d:=J
 repeat' first|(apply Ea;conv=>whnf)|apply Eb|apply Ec|apply Ed|apply Ee|(apply Ei;intro _)|apply Ef H F
 all_goals(try dsimp only[Qf] at *)
 all_goals clear H F
 ·exact h3
 ·exact Ya rfl
 ·exact G
 ·rename_i t u;obtain⟨f2,f3⟩:=Qc1 (a:=adI a) t;show 0≤fI (s,(j,p,g,i,n),f,q) (adI a)∧fI (s,(j,p,g,i,n),f,q) (adI a)<(f.length:Int);rw[f3];exact⟨t,f2⟩
 ·rename_i t u y;obtain⟨f2,f3⟩:=Qc1 (a:=adI a) t;show 0≤fI (s,(j,p,g,i,n),f,q) (adI a)∧fI (s,(j,p,g,i,n),f,q) (adI a)<(f.length:Int);rw[f3];exact⟨t,f2⟩
 ·rename_i t u y A;obtain⟨f2,f3⟩:=Qc1 (a:=adI a) t;show 0≤fI (s,(j,p,g,i,n),f,q) (adI a)∧fI (s,(j,p,g,i,n),f,q) (adI a)<(f.length:Int);rw[f3];exact⟨t,f2⟩
 ·rename_i t u y A;obtain⟨f2,f3⟩:=Qc1 (a:=adI a) t;have u:fI (s,(j,p,g,i,n),f,q) (adI a)<(ds.length:Int):=u;show 0≤fI (s,(j,p,g,i,n),f,q) (adI a)∧fI (s,(j,p,g,i,n),f,q) (adI a)<(ds.length:Int);rw[f3] at u ⊢;exact⟨t,u⟩
 ·rename_i t u y A;obtain⟨f2,f3⟩:=Qc1 (a:=adI a) t;have u:fI (s,(j,p,g,i,n),f,q) (adI a)<(ds.length:Int):=u;show(fI (s,(j,p,g,i,n),f,q) (adI a)).toNat<ds.length;rw[f3] at u ⊢;have t:0≤Qn (s,(j,p,g,i,n),f,q) (adI a):=t;omega
 ·rename_i t u y A;obtain⟨f2,f3⟩:=Qc1 (a:=adI a) t;have t:0≤Qn (s,(j,p,g,i,n),f,q) (adI a):=t;have u:fI (s,(j,p,g,i,n),f,q) (adI a)<(ds.length:Int):=u;have f2:Qn (s,(j,p,g,i,n),f,q) (adI a)<(f.length:Int):=f2;show cP (f.getD (fI (s,(j,p,g,i,n),f,q) (adI a)).toNat (dflt Qe))∧dP (ds.getD (fI (s,(j,p,g,i,n),f,q) (adI a)).toNat (dflt Qh));rw[f3] at u ⊢;exact⟨K _ (QK _ (by omega)),J _ (QK _ (by omega))⟩
 ·rename_i t u y A;obtain⟨f2,f3⟩:=Qc1 (a:=adI a) t;have u:fI (s,(j,p,g,i,n),f,q) (adI a)<(ds.length:Int):=u;show 0≤fI (s,(j,p,g,i,n),f,q) (adI a)∧fI (s,(j,p,g,i,n),f,q) (adI a)<(ds.length:Int);rw[f3] at u ⊢;exact⟨t,u⟩
 ·rename_i t u y A;obtain⟨f2,f3⟩:=Qc1 (a:=adI a) t;have u:fI (s,(j,p,g,i,n),f,q) (adI a)<(ds.length:Int):=u;show(fI (s,(j,p,g,i,n),f,q) (adI a)).toNat<ds.length;rw[f3] at u ⊢;have t:0≤Qn (s,(j,p,g,i,n),f,q) (adI a):=t;omega
 ·rename_i t u y A;obtain⟨f2,f3⟩:=Qc1 (a:=adI a) t;have u:fI (s,(j,p,g,i,n),f,q) (adI a)<(ds.length:Int):=u;have y:(f.getD (fI (s,(j,p,g,i,n),f,q) (adI a)).toNat (dflt Qe)).2.1≥0:=y;have A:(f.getD (fI (s,(j,p,g,i,n),f,q) (adI a)).toNat (dflt Qe)).2.1≤2:=A;rw[f3] at u y A
  have e:((tm,(r,op,at_,w),ds.set (fI (s,(j,p,g,i,n),f,q) (adI a)).toNat (Qbg (f.getD (fI (s,(j,p,g,i,n),f,q) (adI a)).toNat (dflt Qe)) (ds.getD (fI (s,(j,p,g,i,n),f,q) (adI a)).toNat (dflt Qh)) (atF (s,(j,p,g,i,n),f,q) (adI a)) k),bd,B,x):Mach)=Qi5 (s,(j,p,g,i,n),f,q) (tm,(r,op,at_,w),ds,bd,B,x) a k:=by
   rw[f3,E t];exact(Yf (c:=QkU (s,(j,p,g,i,n),f,q) (tm,(r,op,at_,w),ds,bd,B,x) a) ⟨⟨t,u⟩,y,A⟩).symm
  exact .mk [] [3] _ R R R R R (Yv (fun z:Mach=>[some (Blk.arr Qh z.2.2.1)]) e) (Yv (fun z:Mach=>QnU z 0) e)
 ·rename_i t u y A;obtain⟨f2,f3⟩:=Qc1 (a:=adI a) t;have A:¬(f.getD (fI (s,(j,p,g,i,n),f,q) (adI a)).toNat (dflt Qe)).2.1≤2:=A;rw[f3] at A;have e:((tm,(r,op,at_,w),ds,bd,B,x):Mach)=Qi5 (s,(j,p,g,i,n),f,q) (tm,(r,op,at_,w),ds,bd,B,x) a k:=(Yb (c:=QkU (s,(j,p,g,i,n),f,q) (tm,(r,op,at_,w),ds,bd,B,x) a) fun h=>A h.2.2).symm;exact .mk [] [3] _ R R R R R (Yv (fun z:Mach=>[some (Blk.arr Qh z.2.2.1)]) e) (Yv (fun z:Mach=>QnU z 0) e)
 ·rename_i t u y;obtain⟨f2,f3⟩:=Qc1 (a:=adI a) t;have y:¬(f.getD (fI (s,(j,p,g,i,n),f,q) (adI a)).toNat (dflt Qe)).2.1≥0:=y;rw[f3] at y;have e:((tm,(r,op,at_,w),ds,bd,B,x):Mach)=Qi5 (s,(j,p,g,i,n),f,q) (tm,(r,op,at_,w),ds,bd,B,x) a k:=(Yb (c:=QkU (s,(j,p,g,i,n),f,q) (tm,(r,op,at_,w),ds,bd,B,x) a) fun h=>y h.2.1).symm;exact .mk [] [3] _ R R R R R (Yv (fun z:Mach=>[some (Blk.arr Qh z.2.2.1)]) e) (Yv (fun z:Mach=>QnU z 0) e)
 ·rename_i t u;obtain⟨f2,f3⟩:=Qc1 (a:=adI a) t;have u:¬fI (s,(j,p,g,i,n),f,q) (adI a)<(ds.length:Int):=u;rw[f3] at u;have e:((tm,(r,op,at_,w),ds,bd,B,x):Mach)=Qi5 (s,(j,p,g,i,n),f,q) (tm,(r,op,at_,w),ds,bd,B,x) a k:=(Yb (c:=QkU (s,(j,p,g,i,n),f,q) (tm,(r,op,at_,w),ds,bd,B,x) a) fun h=>u h.1.2).symm;exact .mk [] [3] _ R R R R R (Yv (fun z:Mach=>[some (Blk.arr Qh z.2.2.1)]) e) (Yv (fun z:Mach=>QnU z 0) e)
 ·rename_i t;have t:¬0≤Qn (s,(j,p,g,i,n),f,q) (adI a):=t;have e:((tm,(r,op,at_,w),ds,bd,B,x):Mach)=Qi5 (s,(j,p,g,i,n),f,q) (tm,(r,op,at_,w),ds,bd,B,x) a k:=(Yb (c:=QkU (s,(j,p,g,i,n),f,q) (tm,(r,op,at_,w),ds,bd,B,x) a) fun h=>t h.1.1).symm;exact .mk [] [3] _ R R R R R (Yv (fun z:Mach=>[some (Blk.arr Qh z.2.2.1)]) e) (Yv (fun z:Mach=>QnU z 0) e)
theorem QuY(c:Cv):QbI c≤(List.length c.2.2.2.2:Nat)+70000:=by
 unfold QbI;split
 ·have hw:=QcV c;unfold Qav;rcases Int.le_total (((List.length c.2.2.2.2:Nat)+Qbf c-1)/Qbf c) 1 with h|h
  ·rw[Int.max_eq_left h];omega
  ·rw[Int.max_eq_right h];have:=Int.ediv_mul_le ((List.length c.2.2.2.2:Nat)+Qbf c-1) (b:=Qbf c) (by omega);omega
 ·omega
def Q2(l:List Int):Prop:=(∀n∈l,Q1 n)∧l.length≤12
structure GoodD(c:Cv)(L:Nat)(d:Dv):Prop where
 n:Q2 d.1
 u:u8s d.2
 l:List.length d.2≤max (List.length c.2.2.2.2+70000) L
theorem Q2.of{l:List Int}(h:∀n∈l,-1048576≤n∧n≤1048576)(y:l.length≤12):Q2 l:=⟨fun n f=>by have:=h n f;unfold Q1;omega,y⟩
theorem Qgw{α:Type}{P:α→Prop}(k:Int){m t p s v o r x:α}(hm:P m)(ht:P t)(hp:P p)(hs:P s)(g:P v)(ho:P o)(hr:P r)(C:P x):P (sel k m t p s v o r x):=by
 unfold sel
 repeat' split
 all_goals assumption
theorem QFe:Q2 []:=⟨fun n f=>(by cases f),by decide⟩
theorem Qp3{c:Cv}(j:cP c)(N:List Int):Q2 (memN c N):=by
 obtain⟨b1,b2,b3⟩:=Qba j.2.2;unfold memN;split
 ·refine⟨fun n f=>?_,by simp⟩;rw[Jl] at f;subst f;have:=Int.emod_nonneg (N.getD 0 0) (b:=Qav c) (by omega);have:=Int.emod_lt_of_pos (N.getD 0 0) (b:=Qav c) (by omega);unfold Q1;omega
 ·exact QFe
theorem QfQ{c:Cv}(j:cP c){d:Dv}(w:u8s d.2){L:Nat}:GoodD c L (memN c d.1,QaW c d.2):=by
 refine⟨Qp3 j d.1,Qih c w,?_⟩;show(QaW c d.2).length≤_;rw[Qkr];have:=QuY c;omega
theorem QT{c:Cv}{L:Nat}{l:List Int}(h:Q2 l):GoodD c L (l,[]):=⟨h,fun x C=>(by cases C),YR _⟩
theorem Q2.set{l:List Int}(h:Q2 l){v:Int}(g:Q1 v)(i:Nat):Q2 (l.set i v):=by
 refine⟨fun n f=>?_,by rw[YH];exact h.2⟩;rcases List.mem_or_eq_of_mem_set f with f|rfl
 ·exact h.1 n f
 ·exact g
theorem QuZ{l m:List Int}(h:Q2 l)(y:Q2 m)(h3:l.length+m.length≤12):Q2 (l++m) :=
 ⟨fun n f=>(YN.1 f).elim (h.1 n) (y.1 n),by rw[Ym];exact h3⟩
theorem Qu0(N:List Int):Q2 (Qbk N):=by
 unfold Qbk;refine Q2.of (fun n f=>?_) (by simp);simp only[Yt,YF,or_false] at f;rcases f with rfl|rfl|rfl|rfl<;>omega
theorem Qu1(N:List Int):Q2 (QaJ (Qbk N)):=by
 unfold Qbk QaJ;dsimp only
 repeat' split
 all_goals
  refine Q2.of (fun n f=>?_) (by simp);simp only[Yt,YF,or_false] at f;rcases f with rfl|rfl|rfl|rfl<;>omega
theorem QGI(N:List Int)(a:Int):Q2 (trN N a):=by
 unfold trN;refine Q2.of (fun n f=>?_) (by simp);simp only[Yt,YF,or_false] at f;dsimp only[tA,tB,tC,tF] at f;rcases f with rfl|rfl|rfl|rfl<;>(try split)<;>omega
theorem QGJ(N:List Int)(a k:Int):Q2 (twN N a k):=by
 unfold twN;refine Q2.of (fun n f=>?_) (by simp);simp only[Yt,YF,or_false] at f;dsimp only[tA,tB,tC,tF] at f;rcases f with rfl|rfl|rfl|rfl<;>(repeat' split)<;>omega
theorem QkD(N:List Int):Q2 (QaC N):=by
 unfold QaC;refine Q2.of (fun n f=>?_) (by simp);simp only[Yt,YF,or_false] at f;rcases f with rfl|rfl|rfl<;>omega
theorem QDH(N:List Int)(k:Int):Q2 (Qx1 N k):=by
 unfold Qx1;refine Q2.of (fun n f=>?_) (by simp);simp only[Yt,YF,or_false] at f;rcases f with rfl|rfl|rfl<;>omega
theorem QGK(N:List Int)(a k:Int):Q2 (pwN N a k):=by
 unfold pwN;refine Q2.of (fun n f=>?_) (by simp);simp only[Yt,YF,or_false] at f;rcases f with rfl|rfl|rfl<;>(try split)<;>omega
theorem QDI(N:List Int):Q2 (Qbe N):=by
 unfold Qbe;refine Q2.of (fun n f=>?_) (by simp);simp only[Yt,YF,or_false] at f;dsimp only[s0,s1,s2,s3,s4,s5,s6,s7] at f;rcases f with rfl|rfl|rfl|rfl|rfl|rfl|rfl|rfl<;>omega
theorem Qu2(N:List Int):Q2 (Qah (Qbe N)):=by
 unfold Qbe Qah;dsimp only
 repeat' split
 all_goals
  refine Q2.of (fun n f=>?_) (by simp);simp only[Yt,YF,or_false] at f;dsimp only[s0,s1,s2,s3,s4,s5,s6,s7] at *;rcases f with rfl|rfl|rfl|rfl|rfl|rfl|rfl|rfl<;>omega
theorem QDJ(N:List Int)(k:Int):Q2 (QlP N k):=by
 unfold QlP;refine Q2.of (fun n f=>?_) (by simp);simp only[Yt,YF,or_false] at f;dsimp only[s0,s1,s2,s3,s4,s5,s6,s7] at f;rcases f with rfl|rfl|rfl|rfl|rfl|rfl|rfl|rfl<;>(try split)<;>omega
theorem QGL(N:List Int)(a k:Int):Q2 (swN N a k):=by
 unfold swN;refine Q2.of (fun n f=>?_) (by simp);simp only[Yt,YF,or_false] at f;dsimp only[s0,s1,s2,s3,s4,s5,s6,s7] at f;rcases f with rfl|rfl|rfl|rfl|rfl|rfl|rfl|rfl<;>(try split)<;>omega
theorem QGM(N:List Int)(a:Int):Q2 (srN N a):=by
 unfold srN;refine Q2.of (fun n f=>?_) (by simp);simp only[Yt,YF,or_false] at f;dsimp only[s0,s1,s2,s3,s4,s5,s6,s7] at f;rcases f with rfl|rfl|rfl|rfl|rfl|rfl|rfl|rfl<;>(try split)<;>omega
theorem QkE{l:List Int}(h:vOk l):Q2 l∧l.length=6:=by
 cases h with
 |mk B y h3 h4 h5 h6 =>
  refine⟨Q2.of (fun n f=>?_) (by simp),rfl⟩;simp only[Yt,YF,or_false] at f;rcases f with rfl|rfl|rfl|rfl|rfl|rfl<;>omega
theorem QkF(N:List Int):Q2 (Qao N):=by
 have B:=QkE (Qaq N 0);have y:=QkE (Qaq N 6);exact QuZ B.1 y.1 (by omega)
theorem Qu3(N:List Int):Q2 (QaP (Qao N)):=by
 have e1:(Qao N).take 6=vo N 0:=rfl;have e2:(Qao N).drop 6=vo N 6:=rfl;unfold QaP;rw[e1,e2];have B:=QkE (QbU (Qaq N 0) (k:=1) (by omega));have y:=QkE (QbU (Qaq N 6) (k:=1) (by omega));exact QuZ B.1 y.1 (by omega)
theorem QGN(N:List Int)(a k:Int):Q2 (owF N a k):=by
 have h:=QkF N;have g:∀v:Int,-1048576≤v∧v≤1048576→Q1 v:=fun v g=>by unfold Q1;omega
 unfold owF
 repeat' split
 all_goals first
  |exact h
  |exact(h.set (g _ (by omega)) _)
  |exact((h.set (g _ (by omega)) _).set (g _ (by omega)) _)
theorem QnN(N:List Int):Q2 (vN N):=by
 have:=QdB N;unfold vN;refine Q2.of (fun n f=>?_) (by simp);simp only[Yt,YF,or_false] at f;rcases f with rfl|rfl
 ·omega
 ·dsimp only[vH];omega
theorem Qu4(m N:List Int):Q2 (QaV m (vN N)):=by
 have:=QdB N;unfold vN QaV;dsimp only;refine Q2.of (fun n f=>?_) (by simp);simp only[Yt,YF,or_false] at f;dsimp only[vH] at *;rcases f with rfl|rfl<;>(try split)<;>omega
theorem QGO(N:List Int)(a:Int):Q2 (vrN N a):=by
 have:=QdB N;unfold vrN;refine Q2.of (fun n f=>?_) (by simp);simp only[Yt,YF,or_false] at f;dsimp only[vH] at *;rcases f with rfl|rfl<;>(try split)<;>omega
theorem QkG{q:Nat}{l:List Int}(h:dOk q l):Q2 l:=by
 cases h with
 |mk hk ht j hs hi A hd hr ho C =>
  refine Q2.of (fun n f=>?_) (by simp);simp only[Yt,YF,or_false] at f;rcases f with rfl|rfl|rfl|rfl|rfl|rfl|rfl|rfl|rfl|rfl<;>omega
theorem QGP(N:List Int)(q:Nat)(a k:Int):Q2 (dwN N q a k):=by
 have h:=QkG (Qty N q);have g:∀v:Int,-1048576≤v∧v≤1048576→Q1 v:=fun v g=>by unfold Q1;omega
 unfold dwN Qac Qb1;generalize dN N q=n at *;have hb:=Qkm (decide (k%256%16=4))
 repeat' split
 all_goals first
  |exact h
  |exact h.set (g _ (by omega)) _
  |exact(h.set (g _ (by omega)) _).set (g _ (by omega)) _
  |exact((((h.set (g _ (by omega)) _).set (g _ (by omega)) _).set (g _ (by omega)) _).set (g _ (by omega)) _).set (g _ (by omega)) _
theorem QGQ(N:List Int)(q:Nat)(k:Int):Q2 (dcN N q k):=by
 unfold dcN;split
 ·refine Q2.of (fun n f=>?_) (by simp);simp only[Yt,YF,or_false] at f;dsimp only[e1,e2,e3,e4,e5,e6,e7,e8,e9] at *;rcases f with rfl|rfl|rfl|rfl|rfl|rfl|rfl|rfl|rfl|rfl<;>(try split)<;>omega
 ·exact QkG (Qty N q)
theorem QGR(N:List Int)(q:Nat)(a:Int):Q2 (drN N q a):=by
 unfold drN;refine Q2.of (fun n f=>?_) (by simp);simp only[Yt,YF,or_false] at f;dsimp only[e0,e1,e2,e3,e4,e5,e6,e7,e8,e9] at *;rcases f with rfl|rfl|rfl|rfl|rfl|rfl|rfl|rfl|rfl|rfl<;>(try split)<;>omega
theorem Qhf{c:Cv}{L:Nat}{N M:List Int}(h:Q2 N)(w:u8s M)(A:M.length≤L):GoodD c L (N,dM M):=by
 refine⟨h,Qkp w _,?_⟩;show(M.take _).length≤_;rw[Yq];omega
theorem QfR{c:Cv}{L:Nat}{N M:List Int}(h:Q2 N)(w:u8s M)(A:M.length≤32):GoodD c L (N,M):=⟨h,w,by show M.length≤_;omega⟩
theorem QGS{m:List Int}(h:u8s m)(a k:Int):u8s (vwM m a k):=by
 unfold vwM;split
 ·exact Qnu h (by omega) _
 ·exact h
theorem Qu5{c:Cv}{L:Nat}{d:Dv}(w:u8s d.2)(A:List.length d.2≤L):GoodD c L (Qay (dN d.1 (qF d.2),dM d.2)):=by
 have h:=Qo6 (q:=qF d.2) (s:=(dN d.1 (qF d.2),dM d.2)) ⟨Qty _ _,QhX _,Qkp w _⟩;refine⟨QkG h.n,h.u,?_⟩;have:=h.m;have e:(Qay (dN d.1 (qF d.2),dM d.2)).2.length≤d.2.length:=by rw[this];unfold qF;omega
 exact YG (YG e A) (Nat.le_max_right _ _)
structure OkD(L:Nat)(d:Dv):Prop where
 u:u8s d.2
 l:List.length d.2≤L
theorem Qio{c:Cv}(j:cP c){L:Nat}{d:Dv}(h:OkD L d):GoodD c L (Qg c d) :=
 Qgw _ (QfQ j h.u) (QT (Qu1 _)) (QT (QkD _)) (QT (Qu2 _)) (QfR (Qu4 _ _) (Qe5 h.u) (Nat.le_of_eq (Qa0 _))) (QT (Qu3 _)) (Qu5 h.u h.l) (QT QFe)
theorem Qy4{c:Cv}(j:cP c){L:Nat}{d:Dv}(h:OkD L d)(k:Int):GoodD c L (Qmn c d k) :=
 Qgw _ (QfQ j h.u) (QT (Qu0 _)) (QT (QDH _ _)) (QT (QDJ _ _)) (QfR (QnN _) (Qe5 h.u) (Nat.le_of_eq (Qa0 _))) (QT (QkF _)) (Qhf (QGQ _ _ _) h.u h.l) (QT QFe)
theorem Qms{c:Cv}(j:cP c){L:Nat}{d:Dv}(h:OkD L d)(a:Int):GoodD c L (loadD c d a) :=
 Qgw _ (QfQ j h.u) (QT (QGI _ _)) (QT (QkD _)) (QT (QGM _ _)) (QfR (QGO _ _) (Qe5 h.u) (Nat.le_of_eq (Qa0 _))) (QT (QkF _)) (Qhf (QGR _ _ _) h.u h.l) (QT QFe)
theorem QrR{c:Cv}(j:cP c){L:Nat}{d:Dv}(w:u8s d.2)(a k:Int):GoodD c L (Qa2 c d a k):=by
 have z:=QfQ j (d:=d) (L:=L) w;obtain⟨b1,b2,b3⟩:=Qba j.2.2;unfold Qa2;split
 ·exact z
 ·split
  ·refine⟨z.n,Qnu z.u (by omega) _,?_⟩;show(List.set _ _ _).length≤_;rw[YH];exact z.l
  ·split
   ·refine⟨z.n.set ?_ _,z.u,z.l⟩;have:=Int.emod_nonneg (k%256) (b:=Qav c) (by omega);have:=Int.emod_lt_of_pos (k%256) (b:=Qav c) (by omega);unfold Q1;omega
   ·exact z
theorem Qjy{c:Cv}(j:cP c){L:Nat}{d:Dv}(h:OkD L d)(a k:Int):GoodD c L (Qbg c d a k) :=
 Qgw _ (QrR j h.u a k) (QT (QGJ _ _ _)) (QT (QGK _ _ _)) (QT (QGL _ _ _)) (QfR (QnN _) (QGS (Qe5 h.u) _ _) (Nat.le_of_eq ((QDG _ _ _).trans (Qa0 _)))) (QT (QGN _ _ _)) (Qhf (QGP _ _ _ _) h.u h.l) (QT QFe)
abbrev Qv:Ty:=.pair (.int .i64) (.pair .str (.int .i64))
abbrev Inp:=Int×ByteArray×Int
abbrev gIn:Sig:=⟨false,.sl Qv⟩
def QdP(f:Cv→Dv→Dv)(cs:List Cv)(ds:List Dv)(k:Nat):List Dv:=List.zipWith f (cs.take k) (ds.take k)++ds.drop k
theorem QfW(f:Cv→Dv→Dv)(cs:List Cv)(ds:List Dv):QdP f cs ds 0=ds:=by unfold QdP;simp
theorem QbF{f:Cv→Dv→Dv}{cs:List Cv}{ds:List Dv}(h:cs.length=ds.length){k:Nat}(j:cs.length≤k):QdP f cs ds k=List.zipWith f cs ds:=by
 unfold QdP;rw[Yh j,Yh (by omega),Yk (by omega),Jd]
theorem Qhj{f:Cv→Dv→Dv}{cs:List Cv}{ds:List Dv}(h:cs.length=ds.length){k:Nat}(j:k≤cs.length):(List.zipWith f (cs.take k) (ds.take k)).length=k:=by
 rw[Ja,Yq,Yq];omega
theorem QbW{f:Cv→Dv→Dv}{cs:List Cv}{ds:List Dv}(h:cs.length=ds.length){k:Nat}(j:k≤cs.length):(QdP f cs ds k).length=ds.length:=by
 unfold QdP;rw[Ym,Qhj h j,List.length_drop];omega
theorem QbX{f:Cv→Dv→Dv}{cs:List Cv}{ds:List Dv}(h:cs.length=ds.length){k:Nat}(j:k<cs.length)(d:Dv):(QdP f cs ds k).getD k d=ds.getD k d:=by
 unfold QdP;rw[Yd,YO (by rw[Qhj h (by omega)];omega),Qhj h (by omega),Jk,List.getElem?_drop,Nat.add_zero,←Yd]
theorem Qbp{f:Cv→Dv→Dv}{cs:List Cv}{ds:List Dv}(h:cs.length=ds.length){k:Nat}(j:k<cs.length)(c0:Cv)(d0:Dv):(QdP f cs ds k).set k (f (cs.getD k c0) (ds.getD k d0))=QdP f cs ds (k+1):=by
 have e1:cs.take (k+1)=cs.take k++[cs.getD k c0]:=by rw[Je,Yd,Ye j];rfl
 have e2:ds.take (k+1)=ds.take k++[ds.getD k d0]:=by rw[Je,Yd,Ye (show k<ds.length by omega)];rfl
 have e3:ds.drop k=ds.getD k d0::ds.drop (k+1):=by rw[YJ (show k<ds.length by omega),Yd,Ye (show k<ds.length by omega)];rfl
 have hl:=Qhj (f:=f) h (k:=k) (by omega);unfold QdP;rw[e1,e2,e3,Jq,Yb (by omega),hl,Jk,Ji,List.zipWith_append (by rw[Yq,Yq];omega)];simp
theorem QkV{f:Cv→Dv→Dv}{cs:List Cv}{ds:List Dv}(h:cs.length=ds.length){k:Nat}(j:k<cs.length){c0:Cv}{d0:Dv}(e:f (cs.getD k c0) (ds.getD k d0)=ds.getD k d0):QdP f cs ds k=QdP f cs ds (k+1):=by
 have h1:=Qbp (f:=f) h j c0 d0;have q:k<(QdP f cs ds k).length:=by rw[QbW h (by omega)];omega
 rw[e,←QbX (f:=f) h j d0] at h1;rw[←h1];apply List.ext_getElem?;intro i;rw[YY];split
 ·rename_i hi;subst hi;rw[Yd,Ye q];rfl
 ·rfl
def Qfa(x:Inp)(c:Cv)(d:Dv):Dv:=if Qm c.1 x.2.1=true then Qmn c d x.2.2 else d
def QdH(p:List Cv)(t:Int)(s:List Dv×Bool)(x:Inp):List Dv×Bool :=
 if x.1≠t then s else if Qm x.2.1 QaQ=true then (s.1,true) else (List.zipWith (Qfa x) p s.1,s.2)
def QM(p:List Cv)(t:Int)(l:List Inp)(s:List Dv×Bool):List Dv×Bool:=l.foldl (QdH p t) s
def QkW(p:List Cv)(t:Int)(l:List Inp)(s:List Dv×Bool)(k:Nat):List Dv×Bool:=QM p t (l.take k) s
theorem QjB{p:List Cv}{t:Int}{l:List Inp}{s:List Dv×Bool}{k:Nat}(j:k<l.length)(x0:Inp):QkW p t l s (k+1)=QdH p t (QkW p t l s k) (l.getD k x0):=by
 unfold QkW QM;rw[Je,List.foldl_append,Yd,Ye j];rfl
theorem QmA{p:List Cv}{t:Int}{l:List Inp}{s:List Dv×Bool}{k:Nat}(j:l.length≤k):QkW p t l s k=QM p t l s:=by
 unfold QkW;rw[Yh j]
def Qby:List Bool→List Cv→List Dv→Bool
 |h::hs,c::cs,d::ds=>(h&&QaE c d)||Qby hs cs ds
 |_,_,_=>false
def QC(b:Bd)(ds:List Dv):Bool:=Qby (Qbo b.2.2.2 b.2.2.1) b.2.2.1 ds
def QaX(b:Bd)(ds:List Dv)(x:Bsv):List Dv :=
 if 0≤Qn b x.2.1 then
  (if x.1=1 then ds.set (Qn b x.2.1).toNat (loadD (b.2.2.1.getD (Qn b x.2.1).toNat (dflt Qe)) (ds.getD (Qn b x.2.1).toNat (dflt Qh)) (atF b x.2.1))
   else if x.1=2 then ds.set (Qn b x.2.1).toNat (Qbg (b.2.2.1.getD (Qn b x.2.1).toNat (dflt Qe)) (ds.getD (Qn b x.2.1).toNat (dflt Qh)) (atF b x.2.1) x.2.2) else ds)
 else ds
def Qb4(b:Bd)(ds:List Dv)(x:Bsv):Int :=
 if x.1=1 then (if 0≤Qn b x.2.1 then loadI (b.2.2.1.getD (Qn b x.2.1).toNat (dflt Qe)) (ds.getD (Qn b x.2.1).toNat (dflt Qh)) (atF b x.2.1) else 255) else x.2.2
def Qfh(t:Int):List Cv→List Dv→List Int→List Inp
 |c::cs,d::ds,n::ns=>if Qat c d=n then Qfh t cs ds ns else (t,c.1,Qat c d)::Qfh t cs ds ns
 |_,_,_=>[]
theorem Qql(t:Int):∀(cs:List Cv) (ds:List Dv) (ns:List Int) (cs':List Cv) (ds':List Dv) (ns':List Int),cs.length=ds.length→cs.length=ns.length→Qfh t (cs++cs') (ds++ds') (ns++ns')=Qfh t cs ds ns++Qfh t cs' ds' ns'
 | [],[],[],cs',ds',ns',_,_=>rfl
 |c::cs,d::ds,n::ns,cs',ds',ns',h,h2=>by
  simp only[List.cons_append,Qfh];rw[Qql t cs ds ns cs' ds' ns' (by simpa using h) (by simpa using h2)];split<;>rfl
 | [],_::_,_,_,_,_,h,_=>by simp at h
 | [],[],_::_,_,_,_,_,h=>by simp at h
 |_::_,[],_,_,_,_,h,_=>by simp at h
 |_::_,_::_,[],_,_,_,_,h=>by simp at h
theorem QbG(t:Int):∀(cs:List Cv) (ds:List Dv) (ns:List Int),(Qfh t cs ds ns).length≤cs.length
 | [],ds,ns=>by simp[Qfh]
 |c::cs,[],ns=>by simp[Qfh]
 |c::cs,d::ds,[]=>by simp[Qfh]
 |c::cs,d::ds,n::ns=>by
  have:=QbG t cs ds ns;simp only[Qfh,Yx];split
  ·omega
  ·simp only[Yx];omega
def newK(t:Int)(cs:List Cv)(ds:List Dv)(ns:List Int)(k:Nat):List Inp:=Qfh t (cs.take k) (ds.take k) (ns.take k)
theorem Qdm{t:Int}{cs:List Cv}{ds:List Dv}{ns:List Int}(h:cs.length=ds.length)(h2:cs.length=ns.length){k:Nat}(j:k<cs.length)(c0:Cv)(d0:Dv) :
 newK t cs ds ns (k+1)=newK t cs ds ns k++(if Qat (cs.getD k c0) (ds.getD k d0)=ns.getD k 0 then [] else [(t,(cs.getD k c0).1,Qat (cs.getD k c0) (ds.getD k d0))]):=by
 have e1:cs.take (k+1)=cs.take k++[cs.getD k c0]:=by rw[Je,Yd,Ye j];rfl
 have e2:ds.take (k+1)=ds.take k++[ds.getD k d0]:=by rw[Je,Yd,Ye (show k<ds.length by omega)];rfl
 have e3:ns.take (k+1)=ns.take k++[ns.getD k 0]:=by rw[Je,Yd,Ye (show k<ns.length by omega)];rfl
 unfold newK;rw[e1,e2,e3,Qql t _ _ _ _ _ _ (by rw[Yq,Yq];omega) (by rw[Yq,Yq];omega)];congr 1
def Qcg(t:Int):Int:=max (-1) (min t 1099511627775)+1
def Qs(b:Bd)(m:Mach)(l:List Inp):Mach×List Inp :=
 let g:=QM b.2.2.1 m.1 l (m.2.2.1,m.2.1.2.2.2);let a:=Qk b.2.1 (m.2.1.1,m.2.1.2.1,m.2.1.2.2.1,g.2) (QC b g.1);let ds:=List.zipWith Qg b.2.2.1 (QaX b g.1 a.2)
 ((Qcg m.1,QL b.2.1 a.1 (Qb4 b g.1 a.2),ds,a.2.1,a.2.2.1,Qb4 b g.1 a.2),Qfh m.1 b.2.2.1 ds (List.zipWith Qat b.2.2.1 m.2.2.1))
def Qbz(b:Bd)(l:List Inp):Nat→Mach×List Inp→Mach×List Inp
 |0,s=>s
 |n+1,s=>Qbz b l n ((Qs b s.1 l).1,s.2++(Qs b s.1 l).2)
def nmB(s:ByteArray)(c:Cv):Bool:=Qm c.1 s
def QEm:List V1→List Blk→Option (Cv×ByteArray):=fun a b=>match a,b with
 | [.agg [.imm (.string en),.imm (.int .i64 ek),.imm (.int .i64 eb),.imm (.int .i64 es),.ro (.int .u8) ed],.c (.ptr 0 0)],[.var [.imm (.string s)]]=>some ((en,ek,eb,es,ed),s)
 |_,_=>none
theorem QzT{a:List V1}{b:List Blk}{x:Cv×ByteArray}(h:QEm a b=some x):a=[.agg [.imm (.string x.1.1),iv .i64 x.1.2.1,iv .i64 x.1.2.2.1,iv .i64 x.1.2.2.2.1,.ro (.int .u8) x.1.2.2.2.2],.c (.ptr 0 0)]∧b=[.var [.imm (.string x.2)]]:=by
 unfold QEm at h;split at h
 ·injection h with h;subst h;exact⟨rfl,rfl⟩
 ·cases h
def QMa:WSpec:=⟨Cv×ByteArray,fun x=>[.agg [.imm (.string x.1.1),iv .i64 x.1.2.1,iv .i64 x.1.2.2.1,iv .i64 x.1.2.2.2.1,.ro (.int .u8) x.1.2.2.2.2],.c (.ptr 0 0)],fun x=>[.var [.imm (.string x.2)]],QEm,
 fun x=>(some ((fun _=>True) x.2),.cell (bv (nmB x.2 x.1)),[some (.var [.imm (.string x.2)])],[])⟩
theorem QHD:G0 241 QMa.spec:=by
 have e:S0 _:=(Qb (T:=tree))
 have f:=tabs e Qc;refine QMa.gd f e Tryz.func241 (fun _ _ _ h=>QzT h) fun(x:Cv×ByteArray) j=>?_
 have j:(fun _=>True) x.2:=j _ rfl
 repeat' first|(apply Ea;conv=>whnf)|apply Eb|apply Ec|apply Ed|apply Ee|(apply Ei;intro _)|apply Ef f e
 all_goals exact .k [] [0] _ R R
structure biX where
 l:List Cv
 d:ByteArray
def QK3:List V1→List Blk→Option biX:=fun a b=>match a,b with
 | [.c (.ro (.pair .str (.pair (.int .i64) (.pair (.int .i64) (.pair (.int .i64) (.sl (.int .u8)))))) l),.c (.fn 241 [0])],[.var [.imm (.string s)]]=>some ⟨l,s⟩
 |_,_=>none
theorem QEn{a:List V1}{b:List Blk}{x:biX}(h:QK3 a b=some x):a=[.c (.ro Qe x.l),.c (.fn 241 [0])]∧b=[.var [.imm (.string x.d)]]:=by
 unfold QK3 at h;split at h
 ·injection h with h;subst h;exact⟨rfl,rfl⟩
 ·cases h
def QMb:WSpec:=⟨biX,fun x=>[.c (.ro Qe x.l),.c (.fn 241 [0])],fun x=>[.var [.imm (.string x.d)]],QK3,
 fun x=>(some (x.l.length≤4611686018427387904∧(fun _=>True) x.d),I (QbV (nmB x.d) x.l),[some (.var [.imm (.string x.d)])],[])⟩
theorem QHE:G0 98 QMb.spec:=by
 have e:S0 _:=Qa QHD (Qb (T:=tree));have f:=tabs e Qc;refine QMb.gd f e Tryz.func98 (fun _ _ _ h=>QEn h) fun(x:biX) j=>?_
 obtain⟨n,j⟩:x.l.length≤4611686018427387904∧(fun _=>True) x.d:=j _ rfl;obtain⟨l,d⟩:=x;have n:l.length≤4611686018427387904:=n
 repeat' first|(apply Ea;conv=>whnf)|apply Eb|apply Ec|apply Ed|apply Ee|(apply Ei;intro _)|apply Ef f e
 refine QA f e (A:=Unit) l.length (fun i _=>St.mk ((.cell (.ro Qe l))::(.cell (.fn 241 [0]))::E5 ((I l.length)::(I i)::E10 [])) [some (.var [.imm (.string d)])])
  (fun k _=>QdO (nmB d) (l.drop k) k=QbV (nmB d) l) () (Le.mk [] [0] R R R ?_) rfl fun k _ hk p=>?_
 ·repeat' constructor
 repeat' first|(apply Ea;conv=>whnf)|apply Eb|apply Ec|apply Ed|apply Ee|(apply Ei;intro _)|apply Ef f e
 all_goals clear f e
 ·rename_i g;have g:(k:Int)<(l.length:Int):=g;show 0≤(k:Int)∧(k:Int)<(l.length:Int);omega
 ·first|exact j|exact trivial
 ·rename_i g m;have g:(k:Int)<(l.length:Int):=g;exact .k [] [0] _ rfl (Qd (QdG (dflt Qe) (by omega) m p))
 ·rename_i g m;have g:(k:Int)<(l.length:Int):=g
  have hp:¬nmB d (l.getD k (dflt Qe))=true:=by
   have m:nmB d (l.getD k (dflt Qe))=false:=m;rw[m];decide
  apply Ex () [] [0]
  ·repeat' constructor
  ·omega
  ·exact QJ (by omega)
  exact Qbu (dflt Qe) (by omega) hp p
 ·rename_i g;have g:¬(k:Int)<(l.length:Int):=g;exact .k [] [0] _ rfl (Qd (QcO (by omega) p))
def Qwc:PSpec:=⟨[gBd,Qyz],fun(b,s,_)=>(some (b.2.2.1.length≤4611686018427387904),I (QbV (nmB s) b.2.2.1),[])⟩
theorem Qwd:G0 194 Qwc.spec:=by
 have e:S0 _:=Qa QHE (Qb (T:=tree));have f:=tabs e Qc;refine Qwc.gd f e Tryz.func194 fun(b:Bd) (s:ByteArray) j=>?_
 have n:b.2.2.1.length≤4611686018427387904:=j _ rfl;obtain⟨bn,⟨un,ui,ur,uq,um⟩,bc,bw⟩:=b;clear j
 repeat' first|(apply Ea;conv=>whnf)|apply Eb|apply Ec|apply Ed|apply Ee|(apply Ei;intro _)|apply Ef f e
 all_goals first
  |exact⟨n,trivial⟩
  |exact .k [] [] _ R R
  |skip
def QzW:ByteArray:=⟨#[105,114,113]⟩
def Qsn(b:Bd)(w:Wr):Int:=QbV (nmB (QdQ w.1)) b.2.2.1
def Qbq(b:Bd)(w:Wr):Int:=if Qsn b w<0 then 4 else if Qm (cutA w.1) QzW=false∨Qip (b.2.2.1.getD (Qsn b w).toNat (dflt Qe)).2.1=false then 8 else if Qm w.2 Qbn=false then 20 else 0
def QBR:PSpec:=⟨[gBd,(⟨true,Qo⟩:Sig)],fun(b,w,_)=>(some (b.2.2.1.length≤4611686018427387904∧w.1.size≤140737488351232),I (Qbq b w),[])⟩
theorem QzX:G0 103 QBR.spec:=by
 have s:S0 _:=Qa QHI (Qa Qwd (Qa Qp7 (Qb (T:=tree))));have t:=tabs s Qc;refine QBR.gd t s Tryz.func103 fun(b:Bd) (w:Wr) hq=>?_
 obtain⟨hl,hw⟩:b.2.2.1.length≤4611686018427387904∧w.1.size≤140737488351232:=hq _ rfl;clear hq;have p:=QkI (nmB (QdQ w.1)) b.2.2.1;obtain⟨r,⟨j,n,g,i,m⟩,a,q⟩:=b;obtain⟨wf,wt⟩:=w
 repeat' first|(apply Ea;conv=>whnf)|apply Eb|apply Ec|apply Ed|apply Ee|(apply Ei;intro _)|apply Ef t s
 all_goals(try dsimp only[Qf] at *)
 all_goals clear t s
 ·exact⟨rfl,hw⟩
 ·exact hl
 ·rename_i e;refine .k [] [] _ rfl (Qd ?_);exact(Yf e:Qbq (r,(j,n,g,i,m),a,q) (wf,wt)=4).symm
 ·rename_i e c;have c:(!Qm (cutA wf) QzW)=true:=c;refine .k [] [] _ rfl (Qd ?_);show 8=Qbq (r,(j,n,g,i,m),a,q) (wf,wt);unfold Qbq Qsn;rw[Yb (show¬QbV (nmB (QdQ wf)) a<0 from e),Yf (.inl (by simpa using c))]
 ·rename_i e c;show 0≤QbV (nmB (QdQ wf)) a∧QbV (nmB (QdQ wf)) a<(a.length:Int);have e:¬QbV (nmB (QdQ wf)) a<0:=e;have p:QbV (nmB (QdQ wf)) a=-1∨(0≤QbV (nmB (QdQ wf)) a∧QbV (nmB (QdQ wf)) a<a.length):=p;omega
 ·rename_i e c d;have d:(!Qip (a.getD (QbV (nmB (QdQ wf)) a).toNat (dflt Qe)).2.1)=true:=d;refine .k [] [] _ rfl (Qd ?_);show 8=Qbq (r,(j,n,g,i,m),a,q) (wf,wt);unfold Qbq Qsn;rw[Yb (show¬QbV (nmB (QdQ wf)) a<0 from e),Yf (.inr (by simpa using d))]
 ·rename_i e c d f;have c:(!Qm (cutA wf) QzW)=false:=c;have d:(!Qip (a.getD (QbV (nmB (QdQ wf)) a).toNat (dflt Qe)).2.1)=false:=d;have f:(!Qm wt Qbn)=true:=f;refine .k [] [] _ rfl (Qd ?_);show 20=Qbq (r,(j,n,g,i,m),a,q) (wf,wt);unfold Qbq Qsn;rw[Yb (show¬QbV (nmB (QdQ wf)) a<0 from e),Yb (show¬(Qm (cutA wf) QzW=false∨Qip (a.getD (QbV (nmB (QdQ wf)) a).toNat (dflt Qe)).2.1=false) from fun h=>h.elim (fun h=>by rw[h] at c;cases c) (fun h=>by rw[h] at d;cases d)),Yf (show Qm wt Qbn=false by simpa using f)]
 ·rename_i e c d f;have c:(!Qm (cutA wf) QzW)=false:=c;have d:(!Qip (a.getD (QbV (nmB (QdQ wf)) a).toNat (dflt Qe)).2.1)=false:=d;have f:(!Qm wt Qbn)=false:=f;refine .k [] [] _ rfl (Qd ?_);show 0=Qbq (r,(j,n,g,i,m),a,q) (wf,wt);unfold Qbq Qsn;rw[Yb (show¬QbV (nmB (QdQ wf)) a<0 from e),Yb (show¬(Qm (cutA wf) QzW=false∨Qip (a.getD (QbV (nmB (QdQ wf)) a).toNat (dflt Qe)).2.1=false) from fun h=>h.elim (fun h=>by rw[h] at c;cases c) (fun h=>by rw[h] at d;cases d)),Yb (show¬Qm wt Qbn=false from fun h=>by rw[h] at f;cases f)]
def Qbr(c d:Cv):Int:=if Qm d.1 c.1=true then 5 else if c.2.2.1<IntKind.i64.wrap (d.2.2.1+d.2.2.2.1)∧d.2.2.1<IntKind.i64.wrap (c.2.2.1+c.2.2.2.1) then 16 else 0
def Qbv(pre:List Cv)(c:Cv):Int:=if Q0 c≠0 then Q0 c else Qab (Qbr c) pre
def Qbh(l:List Cv):Int:=Qab (fun k=>Qbv (l.take k) (l.getD k (dflt Qe))) (List.range l.length)
def Qa5(b:Bd)(k:Nat):Int:=if Qbq b (b.2.2.2.getD k (dflt Qo))≠0 then Qbq b (b.2.2.2.getD k (dflt Qo)) else if (b.2.2.2.take k).any (Qc0 (b.2.2.2.getD k (dflt Qo)))=true then 5 else 0
def Qas(b:Bd):Int :=
 if QaK (bytesOf b.1)=false then 15 else if QdU b.2.1≠0 then QdU b.2.1 else if b.2.2.1.length>12 then 2 else if Qbh b.2.2.1≠0 then Qbh b.2.2.1
 else if b.2.2.2.length>40 then 2 else Qab (Qa5 b) (List.range b.2.2.2.length)
def QwV:PSpec:=⟨[⟨false,.sl (Qe)⟩],fun(l,_)=>(some (List.length l*64≤140737488351232),.cell (.own 0),[.arr (Qe) l])⟩
theorem QwW:G0 167 QwV.spec:=by
 have a:S0 _:=(Qb (T:=tree))
 have c:=tabs a Qc;refine QwV.gd c a Tryz.func167 fun(l:List (Den (Qe))) b=>?_
 have hl:l.length*64≤140737488351232:=b _ rfl;clear b
 repeat' first|(apply Ea;conv=>whnf)|apply Eb|apply Ec|apply Ed|apply Ee|(apply Ei;intro _)|apply Ef c a
 all_goals first
  |exact Ya rfl
  |skip
 ·rename_i h;obtain rfl:l=[]:=Yr h;exact .le (Le.nil 2 (Qe) rfl) (.k [] [0] _ R R)
 ·show(0+l.length)*64≤140737488355328;omega
 ·exact .k [] [1] _ R R
def QwX:PSpec:=⟨[⟨false,.sl (Qo)⟩],fun(l,_)=>(some (List.length l*32≤140737488351232),.cell (.own 0),[.arr (Qo) l])⟩
theorem QwY:G0 168 QwX.spec:=by
 have a:S0 _:=(Qb (T:=tree))
 have c:=tabs a Qc;refine QwX.gd c a Tryz.func168 fun(l:List (Den (Qo))) b=>?_
 have hl:l.length*32≤140737488351232:=b _ rfl;clear b
 repeat' first|(apply Ea;conv=>whnf)|apply Eb|apply Ec|apply Ed|apply Ee|(apply Ei;intro _)|apply Ef c a
 all_goals first
  |exact Ya rfl
  |skip
 ·rename_i h;obtain rfl:l=[]:=Yr h;exact .le (Le.nil 2 (Qo) rfl) (.k [] [0] _ R R)
 ·show(0+l.length)*32≤140737488355328;omega
 ·exact .k [] [1] _ R R
end Go.Proofs.YtofgbclopbmlcaaGreat

