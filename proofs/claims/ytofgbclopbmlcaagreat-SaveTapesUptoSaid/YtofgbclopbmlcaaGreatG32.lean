/- Part 32 of the proof. Conditions: none. -/
import Derived.Test.YtofgbclopbmlcaaGreatG31
import Derived.Test.YtofgbclopbmlcaaGreatG13
import Derived.Test.YtofgbclopbmlcaaGreatG22
import Derived.Test.YtofgbclopbmlcaaGreatG21
import Derived.Test.YtofgbclopbmlcaaGreatG24
namespace Go.Proofs.YtofgbclopbmlcaaGreat
open Go.IntKind (i64)
set_option maxHeartbeats 2000000
open Go.Fw
set_option linter.unusedVariables false
set_option linter.unusedSimpArgs false
set_option linter.constructorNameAsVariable false
set_option maxRecDepth 100000
def Qed(c:Cv):Dv:=sel c.2.1 (memN c [],QaW c c.2.2.2.2) ([0,0,0,0],[]) ([255,0,0],[]) ([0,0,0,0,0,0,0,0],[]) ([2559,0],List.replicate 32 0) (List.replicate 12 0,[]) ([0,0,0,0,0,0,0,0,0,0],dM c.2.2.2.2) ([],[])
theorem Qcv{x y:Dv}(h:x=y):[some (Blk.arr (.int .i64) x.1),some (Blk.arr (.int .u8) x.2)]=[some (Blk.arr (.int .i64) y.1),some (Blk.arr (.int .u8) y.2)]:=by rw[h]
def QGo:PSpec:=⟨[gC],fun(c,_)=>(some (cP c),QdC,[.arr (.int .i64) (Qed c).1,.arr (.int .u8) (Qed c).2])⟩
theorem QuM(c:Cv)(h:c.2.1=2):memN c []=[0]:=by unfold memN;rw[Yf h];show[0%Qav c]=[0];rw[Int.zero_emod]
theorem QDw:G0 60 QGo.spec:=by
 have f:S0 _:=Qa Ql4 (Qa Qyg (Qa Qyi (Qa Qyk (Qa QCX (Qa Qym (Qa QCI (Qb (T:=tree))))))));have hT:=tabs f Qc;refine QGo.gd hT f Tryz.func60 fun(c:Cv) hp=>?_
 have e:cP c:=hp _ rfl;clear hp;obtain⟨h6,h7⟩:=Ql3 e.2.2;obtain⟨b,ck,d,cs,a⟩:=c;have hl:a.length≤140737488355328:=YG e.2.2 (by decide);rcases kinds ck with rfl|rfl|rfl|rfl|rfl|rfl|rfl|rfl|rfl|hx
 all_goals
  repeat' first|(apply Ea;conv=>whnf)|apply Eb|apply Ec|apply Ed|apply Ee|(apply Ei;intro _)|apply Ef hT f
  all_goals(try dsimp only[Qf] at *)
 all_goals first
  |exact e.2.2
  |exact hl
  |(exfalso;omega)
  |exact⟨rfl,h6,by omega,by omega⟩
  |skip
 ·exact .le (Le.nilH 1 (.int .i64) _ _ R R R) (.mk [] [4,2] _ R R R R R (Qcv (x:=([],QaW (b,0,d,cs,a) a)) (y:=Qed (b,0,d,cs,a)) rfl) rfl)
 ·exact .le (Le.nilH 1 (.int .i64) _ _ R R R) (.mk [] [4,2] _ R R R R R (Qcv (x:=([],QaW (b,1,d,cs,a) a)) (y:=Qed (b,1,d,cs,a)) rfl) rfl)
 ·refine .mk [] [4,2] _ R R R R R (Qcv (x:=([0],QaW (b,2,d,cs,a) a)) (y:=Qed (b,2,d,cs,a)) ?_) rfl;show _=(memN (b,2,d,cs,a) [],QaW (b,2,d,cs,a) a)
  rw[QuM _ rfl]
 ·exact .k [] [2,3] _ R R
 ·exact .k [] [2,3] _ R R
 ·exact .k [] [2,3] _ R R
 ·exact .k [] [2,3] _ R R
 ·exact .k [] [2,3] _ R R
 ·exact .k [] [2,3] _ R R
 ·refine .le (Le.nilH 1 (.int .i64) _ _ R R R) (.le (Le.nilH 1 (.int .u8) _ _ R R R) (.mk [] [2,3] _ R R R R R (Qcv (x:=([],[])) (y:=Qed (b,ck,d,cs,a)) ?_) rfl));unfold Qed;rw[Qai hx]
abbrev Qe:Ty:=.pair .str (.pair (.int .i64) (.pair (.int .i64) (.pair (.int .i64) (.sl (.int .u8)))))
abbrev Qo:Ty:=.pair .str .str
abbrev Wr:=ByteArray×ByteArray
abbrev QGT:Ty:=.pair .str (.pair QDt (.pair (.sl Qe) (.sl Qo)))
abbrev gBd:Sig:=⟨true,QGT⟩
abbrev Bd:=ByteArray×Cpu×List Cv×List Wr
def QdO{α:Type}(p:α→Bool):List α→Nat→Int
 | [],_=>-1
 |x::r,k=>if p x=true then (k:Int) else QdO p r (k+1)
def QbV{α:Type}(p:α→Bool)(l:List α):Int:=QdO p l 0
theorem QGU{α:Type}{l:List α}{k:Nat}(d:α)(h:k<l.length):l.drop k=l.getD k d::l.drop (k+1):=by
 rw[YJ h,Yd,Ye h];rfl
theorem QkH{α:Type}{p:α→Bool}:∀{l:List α} {k:Nat},QdO p l k=-1∨((k:Int)≤QdO p l k∧QdO p l k<k+l.length)
 | [],k=>.inl rfl
 |x::r,k=>by
  unfold QdO;by_cases h:p x=true
  ·rw[Yf h];right;simp only[Yx];omega
  ·rw[Yb h];rcases QkH (p:=p) (l:=r) (k:=k+1) with H|H
   ·exact .inl H
   ·right;simp only[Yx];omega
theorem QkI{α:Type}(p:α→Bool)(l:List α):QbV p l=-1∨(0≤QbV p l∧QbV p l<l.length):=by
 have:=QkH (p:=p) (l:=l) (k:=0);unfold QbV;simpa using this
theorem QdG{α:Type}{p:α→Bool}{l:List α}{k:Nat}(d:α)(h:k<l.length)(t:p (l.getD k d)=true){r:Int}(u:QdO p (l.drop k) k=r):(k:Int)=r:=by
 rw[QGU d h,QdO,Yf t] at u;exact u
theorem Qbu{α:Type}{p:α→Bool}{l:List α}{k:Nat}(d:α)(h:k<l.length)(t:¬p (l.getD k d)=true){r:Int}(u:QdO p (l.drop k) k=r):QdO p (l.drop (k+1)) (k+1)=r:=by
 rw[QGU d h,QdO,Yb t] at u;exact u
theorem QcO{α:Type}{p:α→Bool}{l:List α}{k:Nat}(h:¬k<l.length){r:Int}(u:QdO p (l.drop k) k=r):-1=r:=by
 rw[Yk (by omega)] at u;exact u
theorem Qu8{α:Type}{p:α→Bool}(d:α):∀{l:List α} {k:Nat},0≤QdO p l k→p (l.getD (QdO p l k-k).toNat d)=true
 | [],k,h=>by simp[QdO] at h
 |x::r,k,h=>by
  unfold QdO at h ⊢;by_cases M:p x=true
  ·rw[Yf M];have:((k:Int)-k).toNat=0:=by omega
   rw[this];exact M
  ·rw[Yb M] at h ⊢;have J:=Qu8 (p:=p) d (l:=r) (k:=k+1) h;have P:=QkH (p:=p) (l:=r) (k:=k+1);have:(QdO p r (k+1)-k).toNat=(QdO p r (k+1)-((k+1:Nat):Int)).toNat+1:=by omega
   rw[this];exact J
theorem Qy7{α:Type}{p:α→Bool}(d:α){l:List α}(h:0≤QbV p l):p (l.getD (QbV p l).toNat d)=true:=by
 have:=Qu8 (p:=p) d (l:=l) (k:=0) h;have e:(QdO p l 0-((0:Nat):Int)).toNat=(QbV p l).toNat:=by unfold QbV;omega
 rw[e] at this;exact this
def Qgx(a:Int)(c:Cv):Bool:=decide (c.2.2.1≤a)&&(decide (0<c.2.2.2.1)&&decide (a-c.2.2.1<c.2.2.2.1))
def Qn(b:Bd)(a:Int):Int:=QbV (Qgx a) b.2.2.1
def atF(b:Bd)(a:Int):Int:=if 0≤Qn b a then a-(b.2.2.1.getD (Qn b a).toNat (dflt Qe)).2.2.1 else 0
def cI(c:Cv):Prop:=i6Q c.2.2.1∧i6Q c.2.2.2.1
def bP(b:Bd)(a:Int):Prop:=b.2.2.1.length≤4611686018427387904∧i6Q a∧∀c∈b.2.2.1,cI c
theorem QK{α:Type}{l:List α}{k:Nat}(d:α)(h:k<l.length):l.getD k d∈l:=by
 rw[Yd,Ye h];exact YW h
theorem QIF(x:Int):IntKind.u64.wrap x=x%18446744073709551616:=rfl
theorem QGV{a b s:Int}(E:i6Q a)(O:i6Q b)(N:i6Q s)(H:a≥b)(J:s>0):(IntKind.u64.wrap (IntKind.u64.wrap a-IntKind.u64.wrap b)<IntKind.u64.wrap s)↔a-b<s:=by
 unfold i6Q at E O N;rw[QIF,QIF,QIF,QIF];omega
theorem QLK{x x' y y':Int}{b b':Bool}(H:x=x')(J:y=y')(P:b=b'):AV.tup [I1 x,I1 y,.c (bv b)]=AV.tup [I1 x',I1 y',.c (bv b')]:=by rw[H,J,P]
def QBu:PSpec:=⟨[gBd,gi],fun(b,a,_)=>(some (bP b a),.tup [I1 (if 0≤Qn b a then Qn b a else 0),I1 (atF b a),.c (bv (decide (0≤Qn b a)))],[])⟩
theorem Qy8:G0 93 QBu.spec:=by
 have q:S0 _:=(Qb (T:=tree))
 have B:=tabs q Qc;refine QBu.gd B q Tryz.func93 fun(b:Bd) (a:Int) K=>?_
 obtain⟨L,E,D⟩:bP b a:=K _ rfl;obtain⟨G,bu,f,F⟩:=b;have L:f.length≤4611686018427387904:=L;have D:∀c∈f,cI c:=D;clear K
 repeat' first|(apply Ea;conv=>whnf)|apply Eb|apply Ec|apply Ed|apply Ee|(apply Ei;intro _)|apply Ef B q
 refine QA B q (A:=Unit) f.length (fun i _=>St.mk (E1 ((I a)::E5 (E3 ((.cell (.ro Qe f))::(I f.length)::(I i)::E20 (E10 (E1 [])))))) [])
  (fun k _=>QdO (Qgx a) (f.drop k) k=QbV (Qgx a) f) () (Le.mk [] [] R R R ?_) rfl fun k _ hk u=>?_
 ·repeat' constructor
 repeat' first|(apply Ea;conv=>whnf)|apply Eb|apply Ec|apply Ed|apply Ee|(apply Ei;intro _)|apply Ef B q
 all_goals(try dsimp only[Qf] at *)
 all_goals clear B q
 ·rename_i j;have j:(k:Int)<(f.length:Int):=j;show 0≤(k:Int)∧(k:Int)<(f.length:Int);omega
 ·rename_i j m n C;have j:(k:Int)<(f.length:Int):=j;have g:k<f.length:=by omega
  have w:=D _ (QK (dflt Qe) g);have m:a≥(f.getD k (dflt Qe)).2.2.1:=m;have n:(f.getD k (dflt Qe)).2.2.2.1>0:=n;have C:=(QGV E w.1 w.2 m n).1 C
  have t:Qgx a (f.getD k (dflt Qe))=true:=by
   unfold Qgx;rw[Yl m,Yl n,Yl C];rfl
  have e:=QdG (dflt Qe) g t u;have e1:Qn (G,bu,f,F) a=(k:Int):=e.symm;refine .k [] [] _ rfl (QLK ?_ ?_ ?_)
  ·show(k:Int)=if 0≤Qn (G,bu,f,F) a then Qn (G,bu,f,F) a else 0
   rw[e1,Yf (by omega)]
  ·show i64.wrap (a-(f.getD k (dflt Qe)).2.2.1)=atF (G,bu,f,F) a;unfold atF;rw[e1,Yf (by omega)];show _=a-(f.getD k (dflt Qe)).2.2.1;have H:=E.2;have J:=w.1.1;have P:=w.2.2;unfold i6Q at *;exact w64 (by omega) (by omega)
  ·show true=decide (0≤Qn (G,bu,f,F) a);rw[e1];exact(Yl (by omega)).symm
 ·rename_i j m n C;have j:(k:Int)<(f.length:Int):=j;have g:k<f.length:=by omega
  have w:=D _ (QK (dflt Qe) g);have m:a≥(f.getD k (dflt Qe)).2.2.1:=m;have n:(f.getD k (dflt Qe)).2.2.2.1>0:=n;have C:=fun z=>C ((QGV E w.1 w.2 m n).2 z)
  have t:¬Qgx a (f.getD k (dflt Qe))=true:=by
   unfold Qgx;rw[Yn C];simp
  apply Ex () [] []
  ·repeat' constructor
  ·omega
  ·exact QJ (by omega)
  exact Qbu (dflt Qe) g t u
 ·rename_i j m n;have j:(k:Int)<(f.length:Int):=j;have g:k<f.length:=by omega
  have n:¬(f.getD k (dflt Qe)).2.2.2.1>0:=n
  have t:¬Qgx a (f.getD k (dflt Qe))=true:=by
   unfold Qgx;rw[Yn n];simp
  apply Ex () [] []
  ·repeat' constructor
  ·omega
  ·exact QJ (by omega)
  exact Qbu (dflt Qe) g t u
 ·rename_i j m;have j:(k:Int)<(f.length:Int):=j;have g:k<f.length:=by omega
  have m:¬a≥(f.getD k (dflt Qe)).2.2.1:=m
  have t:¬Qgx a (f.getD k (dflt Qe))=true:=by
   unfold Qgx;rw[Yn m];simp
  apply Ex () [] []
  ·repeat' constructor
  ·omega
  ·exact QJ (by omega)
  exact Qbu (dflt Qe) g t u
 ·rename_i j;have j:¬(k:Int)<(f.length:Int):=j;have e:=QcO (by omega) u;have e1:Qn (G,bu,f,F) a=-1:=e.symm;refine .k [] [] _ rfl (QLK ?_ ?_ ?_)
  ·show 0=if 0≤Qn (G,bu,f,F) a then Qn (G,bu,f,F) a else 0
   rw[e1];rfl
  ·show 0=atF (G,bu,f,F) a;unfold atF;rw[e1];rfl
  ·show false=decide (0≤Qn (G,bu,f,F) a);rw[e1];rfl
theorem QkJ{a b s:Int}(E:i6Q a)(O:i6Q b)(N:i6Q s)(H:a≥b)(J:s>0):(a≤i64.wrap (i64.wrap (b+s)-1)∨i64.wrap (i64.wrap (b+s)-1)<b)↔a-b<s:=by
 unfold i6Q at E O N;rw[IntKind.wrap_i64,IntKind.wrap_i64];omega
def Qu9:PSpec:=⟨[gBd,gi],fun(b,a,_)=>(some (bP b a),I (Qn b a),[])⟩
theorem Qva:G0 75 Qu9.spec:=by
 have q:S0 _:=(Qb (T:=tree))
 have B:=tabs q Qc;refine Qu9.gd B q Tryz.func75 fun(b:Bd) (a:Int) K=>?_
 obtain⟨L,E,D⟩:bP b a:=K _ rfl;obtain⟨G,bu,f,F⟩:=b;have L:f.length≤4611686018427387904:=L;have D:∀c∈f,cI c:=D;clear K
 repeat' first|(apply Ea;conv=>whnf)|apply Eb|apply Ec|apply Ed|apply Ee|(apply Ei;intro _)|apply Ef B q
 refine QA B q (A:=Unit) f.length (fun i _=>St.mk (E1 ((I a)::E5 (E2 ((.cell (.ro Qe f))::(I f.length)::(I i)::E20 (E10 (E2 [])))))) [])
  (fun k _=>QdO (Qgx a) (f.drop k) k=QbV (Qgx a) f) () (Le.mk [] [] R R R ?_) rfl fun k _ hk u=>?_
 ·repeat' constructor
 repeat' first|(apply Ea;conv=>whnf)|apply Eb|apply Ec|apply Ed|apply Ee|(apply Ei;intro _)|apply Ef B q
 all_goals(try dsimp only[Qf] at *)
 all_goals clear B q
 ·rename_i j;have j:(k:Int)<(f.length:Int):=j;show 0≤(k:Int)∧(k:Int)<(f.length:Int);omega
 ·rename_i j m n C;have j:(k:Int)<(f.length:Int):=j;have g:k<f.length:=by omega
  have w:=D _ (QK (dflt Qe) g);have m:(f.getD k (dflt Qe)).2.2.2.1>0:=m;have n:(f.getD k (dflt Qe)).2.2.1≤a:=n;have C:=(QkJ E w.1 w.2 n m).1 (.inl C)
  have t:Qgx a (f.getD k (dflt Qe))=true:=by
   unfold Qgx;rw[Yl n,Yl m,Yl C];rfl
  exact .k [] [] _ rfl (Qd (QdG (dflt Qe) g t u))
 ·rename_i j m n C Q;have j:(k:Int)<(f.length:Int):=j;have g:k<f.length:=by omega
  have w:=D _ (QK (dflt Qe) g);have m:(f.getD k (dflt Qe)).2.2.2.1>0:=m;have n:(f.getD k (dflt Qe)).2.2.1≤a:=n;have C:=(QkJ E w.1 w.2 n m).1 (.inr Q)
  have t:Qgx a (f.getD k (dflt Qe))=true:=by
   unfold Qgx;rw[Yl n,Yl m,Yl C];rfl
  exact .k [] [] _ rfl (Qd (QdG (dflt Qe) g t u))
 ·rename_i j m n C Q;have j:(k:Int)<(f.length:Int):=j;have g:k<f.length:=by omega
  have w:=D _ (QK (dflt Qe) g);have m:(f.getD k (dflt Qe)).2.2.2.1>0:=m;have n:(f.getD k (dflt Qe)).2.2.1≤a:=n;have g6:=fun z=>((QkJ E w.1 w.2 n m).2 z).elim C Q
  have t:¬Qgx a (f.getD k (dflt Qe))=true:=by
   unfold Qgx;rw[Yn g6];simp
  apply Ex () [] []
  ·repeat' constructor
  ·omega
  ·exact QJ (by omega)
  exact Qbu (dflt Qe) g t u
 ·rename_i j m n;have j:(k:Int)<(f.length:Int):=j;have g:k<f.length:=by omega
  have w:=D _ (QK (dflt Qe) g);have n:¬(f.getD k (dflt Qe)).2.2.1≤a:=n
  have t:¬Qgx a (f.getD k (dflt Qe))=true:=by
   unfold Qgx;rw[Yn n];simp
  apply Ex () [] []
  ·repeat' constructor
  ·omega
  ·exact QJ (by omega)
  exact Qbu (dflt Qe) g t u
 ·rename_i j m;have j:(k:Int)<(f.length:Int):=j;have g:k<f.length:=by omega
  have w:=D _ (QK (dflt Qe) g);have m:¬(f.getD k (dflt Qe)).2.2.2.1>0:=m
  have t:¬Qgx a (f.getD k (dflt Qe))=true:=by
   unfold Qgx;rw[Yn m];simp
  apply Ex () [] []
  ·repeat' constructor
  ·omega
  ·exact QJ (by omega)
  exact Qbu (dflt Qe) g t u
 ·rename_i j;have j:¬(k:Int)<(f.length:Int):=j;exact .k [] [] _ rfl (Qd (QcO (by omega) u))
def Qip(k:Int):Bool:=decide (k=3)||(decide (k=5)||decide (k=8))
def Qy9:PSpec:=⟨[gi],fun(k,_)=>(none,.cell (bv (Qip k)),[])⟩
theorem Qp7:G0 122 Qy9.spec:=by
 have q:S0 _:=(Qb (T:=tree))
 have B:=tabs q Qc;refine Qy9.gd B q Tryz.func122 fun(k:Int) _=>?_
 repeat' first|(apply Ea;conv=>whnf)|apply Eb|apply Ec|apply Ed|apply Ee|(apply Ei;intro _)|apply Ef B q
 all_goals(refine .k [] [] _ rfl (Qj ?_))
 all_goals(show _=(decide (k=3)||(decide (k=5)||decide (k=8))))
 all_goals clear B q
 all_goals(dsimp only[gi,Den] at *)
 all_goals(simp_all)
 all_goals(by_cases h:k=8<;>simp[h])
theorem QeQ:G0 56 Qy9.spec:=by
 have q:S0 _:=Qa QnP (Qb (T:=tree));have B:=tabs q Qc;refine Qy9.gd B q Tryz.func56 fun(k:Int) _=>?_
 repeat' first|(apply Ea;conv=>whnf)|apply Eb|apply Ec|apply Ed|apply Ee|(apply Ei;intro _)|apply Ef B q
 all_goals first
  |exact Ya rfl
  |skip
 refine .k [] [] _ rfl (Qj ?_);show([3,5,8].any fun a=>decide (k=a))=_;simp only[List.any_cons,List.any_nil,Bool.or_false];rfl
def Qab{α:Type}(f:α→Int):List α→Int
 | []=>0
 |x::r=>if f x=0 then Qab f r else f x
theorem Qa4{α:Type}{f:α→Int}{l:List α}{k:Nat}(d:α)(h:k<l.length)(q:f (l.getD k d)=0):Qab f (l.drop k)=Qab f (l.drop (k+1)):=by
 rw[YJ h];rw[Yd,Ye h] at q;exact Yf q
theorem QaM{α:Type}{f:α→Int}{l:List α}{k:Nat}(d:α)(h:k<l.length)(q:f (l.getD k d)≠0):Qab f (l.drop k)=f (l.getD k d):=by
 rw[Yd,Ye h] at q ⊢;rw[YJ h];exact Yb q
def QiF(c:Cyc):Int:=if c.1<0∨c.1>2 then 8 else if c.1=0∧(c.2.1≠0∨c.2.2.1≠0) then 3 else if c.2.1<0∨c.2.1>11∨¬(0≤c.2.2.1∧c.2.2.1≤6) then 1 else if c.2.2.2.length>6 then 2 else 0
def QcQ(c:Cyc):Int:=if QiF c=0 then Qab Q3 c.2.2.2 else QiF c
def QB(l:List Cyc):Int:=if l.length>8 then 2 else Qab QcQ l
theorem Qb3{c:Cyc}(h:QiF c=0):c.2.2.2.length≤6:=by
 unfold QiF at h
 repeat' split at h
 all_goals first
  |omega
  |cases h
abbrev QK2:Sig:=⟨true,Qp⟩
def Qv9:PSpec:=⟨[QK2],fun(c,_)=>(none,I (QcQ c),[])⟩
theorem Qwa:G0 239 Qv9.spec:=by
 have b:S0 _:=Qa Qn1 (Qa QfL (Qa QzO (Qb (T:=tree))));have e:=tabs b Qc;refine Qv9.gd e b Tryz.func239 fun(c:Cyc) _=>?_
 obtain⟨p,ca,n,cs⟩:=c
 repeat' first|(apply Ea;conv=>whnf)|apply Eb|apply Ec|apply Ed|apply Ee|(apply Ei;intro _)|apply Ef e b
 all_goals(try dsimp only[Qf] at *)
 all_goals first
  |(refine .k [] [] _ rfl (Qd ?_)
    clear e b;show _=QcQ (p,ca,n,cs);simp[QcQ,QiF,QeM] at *
    first
     |omega
     |(simp_all;done)
     |(simp_all;omega))
  |skip
 all_goals
  have s:QiF (p,ca,n,cs)=0:=by
   clear e b;simp[QiF,QeM] at *
   first
    |omega
    |(simp_all;done)
    |(simp_all;omega)
 ·have hn:cs.length≤6:=Qb3 s;have m:QcQ (p,ca,n,cs)=Qab Q3 cs:=Yf s
  refine QA e b (A:=Unit) cs.length (fun i _=>St.mk (E40 (E10 (E5 ((.cell (.ro Qx cs))::(I cs.length)::(I i)::E5 (E3 (E1 [])))))) [])
   (fun k _=>Qab Q3 (cs.drop k)=Qab Q3 cs) () (Le.mk [] [] R R R ?_) rfl fun k _ hk j=>?_
  ·repeat' constructor
  repeat' first|(apply Ea;conv=>whnf)|apply Eb|apply Ec|apply Ed|apply Ee|(apply Ei;intro _)|apply Ef e b
  all_goals clear e b
  ·rename_i g;have g:(k:Int)<(cs.length:Int):=g;show 0≤(k:Int)∧(k:Int)<(cs.length:Int);omega
  ·rename_i g a;have g:(k:Int)<(cs.length:Int):=g;have a:(Q3 (cs.getD k (dflt Qx)) != 0)=true:=a;refine .k [] [] _ rfl (Qd ?_);show Q3 (cs.getD k (dflt Qx))=QcQ (p,ca,n,cs);rw[m,←j,QaM (dflt Qx) (by omega) (by simpa using a)]
  ·rename_i g a;have g:(k:Int)<(cs.length:Int):=g;have a:(Q3 (cs.getD k (dflt Qx)) != 0)=false:=a;apply Ex () [] []
   ·repeat' constructor
   ·omega
   ·exact QJ (by omega)
   exact(Qa4 (dflt Qx) (by omega) (by simpa using a)).symm.trans j
  ·rename_i g;have g:¬(k:Int)<(cs.length:Int):=g;refine .k [] [] _ rfl (Qd ?_);show 0=QcQ (p,ca,n,cs);rw[m,←j,Yk (by omega)];rfl
 ·have hn:cs.length≤6:=Qb3 s;have m:QcQ (p,ca,n,cs)=Qab Q3 cs:=Yf s
  refine QA e b (A:=Unit) cs.length (fun i _=>St.mk (E40 (E10 (E5 ((.cell (.ro Qx cs))::(I cs.length)::(I i)::E5 (E3 (E1 [])))))) [])
   (fun k _=>Qab Q3 (cs.drop k)=Qab Q3 cs) () (Le.mk [] [] R R R ?_) rfl fun k _ hk j=>?_
  ·repeat' constructor
  repeat' first|(apply Ea;conv=>whnf)|apply Eb|apply Ec|apply Ed|apply Ee|(apply Ei;intro _)|apply Ef e b
  all_goals clear e b
  ·rename_i g;have g:(k:Int)<(cs.length:Int):=g;show 0≤(k:Int)∧(k:Int)<(cs.length:Int);omega
  ·rename_i g a;have g:(k:Int)<(cs.length:Int):=g;have a:(Q3 (cs.getD k (dflt Qx)) != 0)=true:=a;refine .k [] [] _ rfl (Qd ?_);show Q3 (cs.getD k (dflt Qx))=QcQ (p,ca,n,cs);rw[m,←j,QaM (dflt Qx) (by omega) (by simpa using a)]
  ·rename_i g a;have g:(k:Int)<(cs.length:Int):=g;have a:(Q3 (cs.getD k (dflt Qx)) != 0)=false:=a;apply Ex () [] []
   ·repeat' constructor
   ·omega
   ·exact QJ (by omega)
   exact(Qa4 (dflt Qx) (by omega) (by simpa using a)).symm.trans j
  ·rename_i g;have g:¬(k:Int)<(cs.length:Int):=g;refine .k [] [] _ rfl (Qd ?_);show 0=QcQ (p,ca,n,cs);rw[m,←j,Yk (by omega)];rfl
def Qhn:PSpec:=⟨[⟨false,.sl Qp⟩],fun(l,_)=>(none,I (QB l),[])⟩
theorem Qsl:G0 189 Qhn.spec:=by
 have b:S0 _:=Qa Qwa (Qb (T:=tree));have e:=tabs b Qc;refine Qhn.gd e b Tryz.func189 fun(l:List Cyc) _=>?_
 repeat' first|(apply Ea;conv=>whnf)|apply Eb|apply Ec|apply Ed|apply Ee|(apply Ei;intro _)|apply Ef e b
 ·rename_i g;have g:(l.length:Int)>8:=g;refine .k [] [] _ rfl (Qd ?_);exact(Yf (by omega):QB l=2).symm
 rename_i g0;have g0:¬(l.length:Int)>8:=g0;have m:QB l=Qab QcQ l:=Yb (by omega)
 refine QA e b (A:=Unit) l.length (fun i _=>St.mk (E5 (E3 (E1 ((.cell (.ro Qp l))::(I l.length)::(I i)::E5 (E3 (E1 [])))))) [])
  (fun k _=>Qab QcQ (l.drop k)=Qab QcQ l) () (Le.mk [] [] R R R ?_) rfl fun k _ hk j=>?_
 ·repeat' constructor
 repeat' first|(apply Ea;conv=>whnf)|apply Eb|apply Ec|apply Ed|apply Ee|(apply Ei;intro _)|apply Ef e b
 all_goals clear e b
 ·rename_i g;have g:(k:Int)<(l.length:Int):=g;show 0≤(k:Int)∧(k:Int)<(l.length:Int);omega
 ·rename_i g a;have g:(k:Int)<(l.length:Int):=g;have a:(QcQ (l.getD k (dflt Qp)) != 0)=true:=a;refine .k [] [] _ rfl (Qd ?_);show QcQ (l.getD k (dflt Qp))=QB l;rw[m,←j,QaM (dflt Qp) (by omega) (by simpa using a)]
 ·rename_i g a;have g:(k:Int)<(l.length:Int):=g;have a:(QcQ (l.getD k (dflt Qp)) != 0)=false:=a;apply Ex () [] []
  ·repeat' constructor
  ·omega
  ·exact QJ (by omega)
  exact(Qa4 (dflt Qp) (by omega) (by simpa using a)).symm.trans j
 ·rename_i g;have g:¬(k:Int)<(l.length:Int):=g;refine .k [] [] _ rfl (Qd ?_);show 0=QB l;rw[m,←j,Yk (by omega)];rfl
theorem QuN{k n:Int}(h:k<0∨8<k)(g:k=n)(hn:0≤n∧n≤8):False:=by omega
theorem QBo{c:Cv}{d:Dv}{a:Int}(q:c.2.1=0∨c.2.1=1)(A:u8s d.2)(B:a≥0)(h1:a<((QaW c d.2).length:Nat)):i64.wrap ((QaW c d.2).getD a.toNat 0)=Qb8 c d a:=by
 have e:QE c (QcX c d) a=a:=by
  unfold QE;rw[Yb (by omega),Yb];show¬(a<0∨a≥((QaW c d.2).length:Nat));omega
 rw[QDs (Qih _ A),Qb8,e,Yf B]
theorem QpS{c:Cv}{d:Dv}{a:Int}(q:c.2.1=0∨c.2.1=1)(h:¬a≥0∨¬a<((QaW c d.2).length:Nat)):0=Qb8 c d a:=by
 have e:QE c (QcX c d) a=-1:=by
  unfold QE;rw[Yb (by omega),Yf];show a<0∨a≥((QaW c d.2).length:Nat);omega
 rw[Qb8,e,Yb (by decide),Yb (by omega)]
theorem QyG{c:Cv}{d:Dv}{a:Int}(q:c.2.1=2)(h:a<1∨a>Qbf c):QE c (QcX c d) a=-1:=by
 unfold QE;rw[Yf q,Yf h]
theorem QKA{c:Cv}{d:Dv}{a:Int}(q:c.2.1=2)(p:cP c)(m:a>0)(j:a≤Qbf c):i64.wrap (i64.wrap (i64.wrap ((memN c d.1).getD 0 0*Qbf c)+a)-1)=QE c (QcX c d) a∧QE c (QcX c d) a≥0:=by
 obtain⟨b1,b2,b3⟩:=Qba p.2.2;obtain⟨w1,w2⟩:=QcV c;obtain⟨_,t⟩:=Qeu d p;obtain⟨_,n0,n1⟩:=t q;have n0:0≤(memN c d.1).getD 0 0:=n0;have n1:(memN c d.1).getD 0 0<Qav c:=n1;obtain⟨m1,m2⟩:=Qkx n0 n1 w1
 have e:QE c (QcX c d) a=(memN c d.1).getD 0 0*Qbf c+a-1:=by
  unfold QE;rw[Yf q,Yb (by omega)];rfl
 rw[e,w64 (x:=(memN c d.1).getD 0 0*Qbf c) (by omega) (by omega),w64 (x:=(memN c d.1).getD 0 0*Qbf c+a) (by omega) (by omega),w64 (by omega) (by omega)];exact⟨rfl,by omega⟩
theorem QKB{c:Cv}{d:Dv}{a:Int}(q:c.2.1=2)(p:cP c)(A:u8s d.2)(m:a>0)(j:a≤Qbf c):i64.wrap ((QaW c d.2).getD (i64.wrap (i64.wrap (i64.wrap ((memN c d.1).getD 0 0*Qbf c)+a)-1)).toNat 0)=Qb8 c d a:=by
 obtain⟨e1,e2⟩:=QKA (d:=d) q p m j;rw[e1,QDs (Qih _ A),Qb8,Yf e2]
theorem QyH{c:Cv}{d:Dv}{a:Int}(q:c.2.1=2)(p:cP c)(m:a>0)(j:a≤Qbf c):0≤i64.wrap (i64.wrap (i64.wrap ((memN c d.1).getD 0 0*Qbf c)+a)-1)∧i64.wrap (i64.wrap (i64.wrap ((memN c d.1).getD 0 0*Qbf c)+a)-1)<((QaW c d.2).length:Nat):=by
 obtain⟨e1,e2⟩:=QKA (d:=d) q p m j;rw[e1];exact⟨e2,Qec d p e2⟩
theorem QKC{c:Cv}{d:Dv}{a:Int}(q:c.2.1=2)(g:a=0):(memN c d.1).getD 0 0=Qb8 c d a:=by
 rw[Qb8,QyG q (by omega),Yb (by decide),Yf ⟨q,g⟩]
theorem QGp{c:Cv}{d:Dv}{a:Int}(q:c.2.1=2)(g:¬a=0)(h:¬a>0∨¬a≤Qbf c):0=Qb8 c d a:=by
 rw[Qb8,QyG q (by omega),Yb (by decide),Yb (fun h=>g h.2)]
theorem Qmk{c:Cv}{N:List Int}(q:c.2.1=2):0<(memN c N).length:=by
 unfold memN;rw[Yf q];show 0<1;omega
theorem QGq{c:Cv}{d:Dv}{a k:Int}(q:c.2.1=0)(B:a≥0)(h1:a<((QaW c d.2).length:Nat)):(memN c d.1,(QaW c d.2).set a.toNat (IntKind.u8.wrap (k%256)))=Qa2 c d a k:=by
 have e:QE c (QcX c d) a=a:=by
  unfold QE;rw[Yb (by omega),Yb];show¬(a<0∨a≥((QaW c d.2).length:Nat));omega
 have e2:IntKind.u8.wrap (k%256)=k%256:=by show k%256%256=k%256;omega
 rw[Qa2,e,Yb (by omega),Yf B,e2]
theorem QBp{c:Cv}{d:Dv}{a k:Int}(q:c.2.1=0)(h:¬a≥0∨¬a<((QaW c d.2).length:Nat)):(memN c d.1,QaW c d.2)=Qa2 c d a k:=by
 have e:QE c (QcX c d) a=-1:=by
  unfold QE;rw[Yb (by omega),Yf];show a<0∨a≥((QaW c d.2).length:Nat);omega
 rw[Qa2,e,Yb (by omega),Yb (by decide),Yb (by omega)];rfl
theorem QGr{c:Cv}{d:Dv}{a k:Int}(q:c.2.1=1):(memN c d.1,QaW c d.2)=Qa2 c d a k:=by
 rw[Qa2,Yf q];rfl
theorem QKD{c:Cv}{d:Dv}{a k:Int}(q:c.2.1=2)(g:a=0):((memN c d.1).set 0 (Int.tmod (k%256) (Qav c)),QaW c d.2)=Qa2 c d a k:=by
 rw[Qa2,QyG q (by omega),Yb (by omega),Yb (by decide),Yf ⟨q,g⟩,Yi (by omega)]
theorem QKE{c:Cv}{d:Dv}{a k:Int}(q:c.2.1=2)(p:cP c)(m:a>0)(j:a≤Qbf c):(memN c d.1,(QaW c d.2).set (i64.wrap (i64.wrap (i64.wrap ((memN c d.1).getD 0 0*Qbf c)+a)-1)).toNat (IntKind.u8.wrap (k%256)))=Qa2 c d a k:=by
 obtain⟨e1,e2⟩:=QKA (d:=d) q p m j;have e3:IntKind.u8.wrap (k%256)=k%256:=by show k%256%256=k%256;omega
 rw[e1,Qa2,Yb (by omega),Yf e2,e3]
theorem QGs{c:Cv}{d:Dv}{a k:Int}(q:c.2.1=2)(g:¬a=0)(h:¬a>0∨¬a≤Qbf c):(memN c d.1,QaW c d.2)=Qa2 c d a k:=by
 rw[Qa2,QyG q (by omega),Yb (by omega),Yb (by decide),Yb (fun h=>g h.2)];rfl
def QIC(k:Int):Prop:=k=0∨k=1∨k=2∨(k<0∨8<k)
def Qml:PSpec:=⟨[gC,gD,gi],fun(c,d,a,_)=>(some ((cP c∧dP d)∧QIC c.2.1),.tup [Qi2,I1 (loadI c d a)],[.arr (.int .i64) (loadD c d a).1,.arr (.int .u8) (loadD c d a).2])⟩
theorem Qcw:G0 76 Qml.spec:=by
 have s:S0 _:=Qa Qcj (Qa Qgq (Qa QfF (Qb (T:=tree))));have u:=tabs s Qc;refine Qml.gd u s Tryz.func76 fun(c:Cv) (d:Dv) (a:Int) z=>?_
 obtain⟨b,r,i,cs,f⟩:=c;obtain⟨N,M⟩:=d;obtain⟨⟨p,w,A⟩,q⟩:(cP (b,r,i,cs,f)∧dP (N,M))∧QIC r:=z _ rfl;clear z;rcases q with rfl|rfl|rfl|t
 all_goals
  repeat' first|(exfalso;rename_i g;exact QuN t g (by decide))|(apply Ea;conv=>whnf)|apply Eb|apply Ec|apply Ed|apply Ee|(apply Ei;intro _)|apply Ef u s
  all_goals(try dsimp only[Qf] at *)
 all_goals clear u s
 ·exact⟨p,w⟩
 ·rename_i m j;exact⟨m,j⟩
 ·rename_i m j;have j:a<((QaW (b,0,i,cs,f) M).length:Nat):=j;show a.toNat<(QaW (b,0,i,cs,f) M).length;omega
 ·rename_i m j;refine .k [] [4,5] _ rfl (QgZ ?_);exact QBo (c:=(b,0,i,cs,f)) (d:=(N,M)) (.inl rfl) A m j
 ·rename_i m j;refine .k [] [4,5] _ rfl (QgZ ?_);exact QpS (c:=(b,0,i,cs,f)) (d:=(N,M)) (.inl rfl) (.inr j)
 ·rename_i m;refine .k [] [4,5] _ rfl (QgZ ?_);exact QpS (c:=(b,0,i,cs,f)) (d:=(N,M)) (.inl rfl) (.inl m)
 ·exact⟨p,w⟩
 ·rename_i m j;exact⟨m,j⟩
 ·rename_i m j;have j:a<((QaW (b,1,i,cs,f) M).length:Nat):=j;show a.toNat<(QaW (b,1,i,cs,f) M).length;omega
 ·rename_i m j;refine .k [] [4,5] _ rfl (QgZ ?_);exact QBo (c:=(b,1,i,cs,f)) (d:=(N,M)) (.inr rfl) A m j
 ·rename_i m j;refine .k [] [4,5] _ rfl (QgZ ?_);exact QpS (c:=(b,1,i,cs,f)) (d:=(N,M)) (.inr rfl) (.inr j)
 ·rename_i m;refine .k [] [4,5] _ rfl (QgZ ?_);exact QpS (c:=(b,1,i,cs,f)) (d:=(N,M)) (.inr rfl) (.inl m)
 ·exact⟨p,w⟩
 ·exact p
 ·have h:=Qmk (c:=(b,2,i,cs,f)) (N:=N) rfl;show 0≤(0:Int)∧(0:Int)<((memN (b,2,i,cs,f) N).length:Nat);omega
 ·exact Qmk (c:=(b,2,i,cs,f)) (N:=N) rfl
 ·rename_i m;refine .k [] [4,5] _ rfl (QgZ ?_);exact QKC (c:=(b,2,i,cs,f)) (d:=(N,M)) rfl m
 ·have h:=Qmk (c:=(b,2,i,cs,f)) (N:=N) rfl;show 0≤(0:Int)∧(0:Int)<((memN (b,2,i,cs,f) N).length:Nat);omega
 ·exact Qmk (c:=(b,2,i,cs,f)) (N:=N) rfl
 ·rename_i m j y;exact QyH (c:=(b,2,i,cs,f)) (d:=(N,M)) rfl p j y
 ·rename_i m j y;have h:=QyH (c:=(b,2,i,cs,f)) (d:=(N,M)) rfl p j y;exact(Int.toNat_lt h.1).2 h.2
 ·rename_i m j y;refine .k [] [4,5] _ rfl (QgZ ?_);exact QKB (c:=(b,2,i,cs,f)) (d:=(N,M)) rfl p A j y
 ·rename_i m j y;refine .k [] [4,5] _ rfl (QgZ ?_);exact QGp (c:=(b,2,i,cs,f)) (d:=(N,M)) rfl m (.inr y)
 ·rename_i m j;refine .k [] [4,5] _ rfl (QgZ ?_);exact QGp (c:=(b,2,i,cs,f)) (d:=(N,M)) rfl m (.inl j)
 ·exact⟨p,w⟩
 ·have e1:Q9 (b,r,i,cs,f) (N,M)=loadD (b,r,i,cs,f) (N,M) a:=by unfold Q9 loadD;rw[Qai t,Qai t]
  have e2:0=loadI (b,r,i,cs,f) (N,M) a:=by unfold loadI;rw[Qai t]
  exact .mk [] [4,5] _ R R R R R (Qcv e1) (QgZ e2)
def Qmm:PSpec:=⟨[gC,gD,gi,gi],fun(c,d,a,k,_)=>(some ((cP c∧dP d)∧QIC c.2.1),QdC,[.arr (.int .i64) (Qbg c d a k).1,.arr (.int .u8) (Qbg c d a k).2])⟩
theorem Qcx:G0 77 Qmm.spec:=by
 have s:S0 _:=Qa Qcj (Qa QbC (Qa QfF (Qb (T:=tree))));have u:=tabs s Qc;refine Qmm.gd u s Tryz.func77 fun(c:Cv) (d:Dv) (a k:Int) z=>?_
 obtain⟨b,r,i,cs,f⟩:=c;obtain⟨N,M⟩:=d;obtain⟨⟨p,w,A⟩,q⟩:(cP (b,r,i,cs,f)∧dP (N,M))∧QIC r:=z _ rfl;clear z;rcases q with rfl|rfl|rfl|t
 all_goals
  repeat' first|(exfalso;rename_i g;exact QuN t g (by decide))|(apply Ea;conv=>whnf)|apply Eb|apply Ec|apply Ed|apply Ee|(apply Ei;intro _)|apply Ef u s
  all_goals(try dsimp only[Qf] at *)
 all_goals clear u s
 ·exact⟨p,w⟩
 ·exact Ya rfl
 ·rename_i m j;exact⟨m,j⟩
 ·rename_i m j;have j:a<((QaW (b,0,i,cs,f) M).length:Nat):=j;show a.toNat<(QaW (b,0,i,cs,f) M).length;omega
 ·rename_i m j;exact .mk [] [3,4] _ R R R R R (Qcv (QGq (c:=(b,0,i,cs,f)) (d:=(N,M)) (k:=k) rfl m j)) rfl
 ·rename_i m j;exact .mk [] [3,4] _ R R R R R (Qcv (QBp (c:=(b,0,i,cs,f)) (d:=(N,M)) (k:=k) rfl (.inr j))) rfl
 ·rename_i m;exact .mk [] [3,4] _ R R R R R (Qcv (QBp (c:=(b,0,i,cs,f)) (d:=(N,M)) (k:=k) rfl (.inl m))) rfl
 ·exact⟨p,w⟩
 ·exact Ya rfl
 ·exact .mk [] [3,4] _ R R R R R (Qcv (QGr (c:=(b,1,i,cs,f)) (d:=(N,M)) (a:=a) (k:=k) rfl)) rfl
 ·exact⟨p,w⟩
 ·exact Ya rfl
 ·exact p
 ·obtain⟨b1,b2,b3⟩:=Qba (c:=(b,2,i,cs,f)) p.2.2;show Qav (b,2,i,cs,f)≠0;omega
 ·have h:=Qmk (c:=(b,2,i,cs,f)) (N:=N) rfl;show 0≤(0:Int)∧(0:Int)<((memN (b,2,i,cs,f) N).length:Nat);omega
 ·exact Qmk (c:=(b,2,i,cs,f)) (N:=N) rfl
 ·rename_i m;exact .mk [] [3,4] _ R R R R R (Qcv (QKD (c:=(b,2,i,cs,f)) (d:=(N,M)) (k:=k) rfl m)) rfl
 ·have h:=Qmk (c:=(b,2,i,cs,f)) (N:=N) rfl;show 0≤(0:Int)∧(0:Int)<((memN (b,2,i,cs,f) N).length:Nat);omega
 ·exact Qmk (c:=(b,2,i,cs,f)) (N:=N) rfl
 ·rename_i m j y;exact QyH (c:=(b,2,i,cs,f)) (d:=(N,M)) rfl p j y
 ·rename_i m j y;have h:=QyH (c:=(b,2,i,cs,f)) (d:=(N,M)) rfl p j y;exact(Int.toNat_lt h.1).2 h.2
 ·rename_i m j y;exact .mk [] [3,4] _ R R R R R (Qcv (QKE (c:=(b,2,i,cs,f)) (d:=(N,M)) (k:=k) rfl p j y)) rfl
 ·rename_i m j y;exact .mk [] [3,4] _ R R R R R (Qcv (QGs (c:=(b,2,i,cs,f)) (d:=(N,M)) (k:=k) rfl m (.inr y))) rfl
 ·rename_i m j;exact .mk [] [3,4] _ R R R R R (Qcv (QGs (c:=(b,2,i,cs,f)) (d:=(N,M)) (k:=k) rfl m (.inl j))) rfl
 ·exact⟨p,w⟩
 ·exact Ya rfl
 ·have e1:Q9 (b,r,i,cs,f) (N,M)=Qbg (b,r,i,cs,f) (N,M) a k:=by unfold Q9 Qbg;rw[Qai t,Qai t]
  exact .mk [] [3,4] _ R R R R R (Qcv e1) rfl
def Qmn(c:Cv)(d:Dv)(k:Int):Dv:=sel c.2.1 (memN c d.1,QaW c d.2) (Qbk d.1,[]) (Qx1 d.1 k,[]) (QlP d.1 k,[]) (vN d.1,vM d.2) (Qao d.1,[]) (dcN d.1 (qF d.2) k,dM d.2) ([],[])
def QpT:PSpec:=⟨[gC,gD,gi],fun(c,d,k,_)=>(some ((cP c∧dP d)∧(c.2.1≠4∧c.2.1≠5∧c.2.1≠8)),QdC,[.arr (.int .i64) (Q9 c d).1,.arr (.int .u8) (Q9 c d).2])⟩
theorem Qbx:G0 73 QpT.spec:=by
 have s:S0 _:=Qa Qcj (Qb (T:=tree));have u:=tabs s Qc;refine QpT.gd u s Tryz.func73 fun(c:Cv) (d:Dv) (k:Int) z=>?_
 obtain⟨b,r,i,cs,f⟩:=c;obtain⟨N,M⟩:=d;obtain⟨⟨p,w,A⟩,h4,h5,h8⟩:(cP (b,r,i,cs,f)∧dP (N,M))∧(r≠4∧r≠5∧r≠8):=z _ rfl;clear z;rcases kinds r with rfl|rfl|rfl|rfl|rfl|rfl|rfl|rfl|rfl|t
 all_goals try(exfalso;omega)
 all_goals
  repeat' first|(exfalso;rename_i g;exact QuN t g (by decide))|(apply Ea;conv=>whnf)|apply Eb|apply Ec|apply Ed|apply Ee|(apply Ei;intro _)|apply Ef u s
  all_goals(try dsimp only[Qf] at *)
 all_goals first
  |exact⟨p,w⟩
  |exact .k [] [3,4] _ R R
  |exact .k [] [] _ R R
  |skip
def Qmo:PSpec:=⟨[gC,gD],fun(c,d,_)=>(some ((cP c∧dP d)∧(c.2.1≠3∧c.2.1≠5∧c.2.1≠8)),.cell (bv false),[])⟩
theorem Qa3:G0 16 Qmo.spec:=by
 have s:S0 _:=Qa Qcj (Qb (T:=tree));have u:=tabs s Qc;refine Qmo.gd u s Tryz.func16 fun(c:Cv) (d:Dv) z=>?_
 obtain⟨b,r,i,cs,f⟩:=c;obtain⟨N,M⟩:=d;obtain⟨⟨p,w,A⟩,h4,h5,h8⟩:(cP (b,r,i,cs,f)∧dP (N,M))∧(r≠3∧r≠5∧r≠8):=z _ rfl;clear z;rcases kinds r with rfl|rfl|rfl|rfl|rfl|rfl|rfl|rfl|rfl|t
 all_goals try(exfalso;omega)
 all_goals
  repeat' first|(exfalso;rename_i g;exact QuN t g (by decide))|(apply Ea;conv=>whnf)|apply Eb|apply Ec|apply Ed|apply Ee|(apply Ei;intro _)|apply Ef u s
  all_goals(try dsimp only[Qf] at *)
 all_goals first
  |exact⟨p,w⟩
  |exact .k [] [3,4] _ R R
  |exact .k [] [] _ R R
  |skip
def QpU:PSpec:=⟨[gC,gD],fun(c,d,_)=>(some ((cP c∧dP d)∧(c.2.1<4∨8<c.2.1)),I 0,[])⟩
theorem Qck:G0 72 QpU.spec:=by
 have s:S0 _:=Qa Qcj (Qb (T:=tree));have u:=tabs s Qc;refine QpU.gd u s Tryz.func72 fun(c:Cv) (d:Dv) z=>?_
 obtain⟨b,r,i,cs,f⟩:=c;obtain⟨N,M⟩:=d;obtain⟨⟨p,w,A⟩,q⟩:(cP (b,r,i,cs,f)∧dP (N,M))∧(r<4∨8<r):=z _ rfl;clear z;rcases kinds r with rfl|rfl|rfl|rfl|rfl|rfl|rfl|rfl|rfl|t
 all_goals try(exfalso;omega)
 all_goals
  repeat' first|(exfalso;rename_i g;exact QuN t g (by decide))|(apply Ea;conv=>whnf)|apply Eb|apply Ec|apply Ed|apply Ee|(apply Ei;intro _)|apply Ef u s
  all_goals(try dsimp only[Qf] at *)
 all_goals first
  |exact⟨p,w⟩
  |exact .k [] [3,4] _ R R
  |exact .k [] [] _ R R
  |skip
theorem Qp8{α:Type}(p:α→Bool):∀(l:List α) (k:Nat),decide (QdO p l k≥0)=l.any p
 | [],k=>rfl
 |x::r,k=>by
  unfold QdO;by_cases h:p x=true
  ·rw[Yf h,List.any_cons,h,Yl (by omega)];rfl
  ·rw[Yb h,List.any_cons,Qp8 p r (k+1)];have:p x=false:=by simpa using h
   rw[this];rfl
theorem Qiq{α:Type}(p:α→Bool)(l:List α):decide (QbV p l≥0)=l.any p:=Qp8 p l 0
def Qhg:ByteArray:=⟨#[46,105,114,113]⟩
def Qbn:ByteArray:=⟨#[99,112,117,46,105,114,113]⟩
def Qdi(c:Cv)(w:Wr):Bool:=bif Qm w.1 (c.1++Qhg) then Qm w.2 Qbn else false
def Qjz(c:Cv):Prop:=c.1.size<4611686018427387900
structure loX where
 l:List Wr
 d:ByteArray
def QDK:List V1→List Blk→Option (Wr×Cv):=fun a b=>match a,b with
 | [.agg [.imm (.string wa),.imm (.string wb)],.c (.ptr 0 0)],[.var [.imm (.string s),.imm (.int .i64 t),.imm (.int .i64 y),.imm (.int .i64 cs),.ro (.int .u8) u]]=>some ((wa,wb),(s,t,y,cs,u))
 |_,_=>none
theorem Qza{a:List V1}{b:List Blk}{x:Wr×Cv}(h:QDK a b=some x):a=[.agg [.imm (.string x.1.1),.imm (.string x.1.2)],.c (.ptr 0 0)]∧b=[.var [.imm (.string x.2.1),iv .i64 x.2.2.1,iv .i64 x.2.2.2.1,iv .i64 x.2.2.2.2.1,.ro (.int .u8) x.2.2.2.2.2]]:=by
 unfold QDK at h;split at h
 ·injection h with h;subst h;exact⟨rfl,rfl⟩
 ·cases h
def QLL:WSpec:=⟨Wr×Cv,fun x=>[.agg [.imm (.string x.1.1),.imm (.string x.1.2)],.c (.ptr 0 0)],fun x=>[.var [.imm (.string x.2.1),iv .i64 x.2.2.1,iv .i64 x.2.2.2.1,iv .i64 x.2.2.2.2.1,.ro (.int .u8) x.2.2.2.2.2]],QDK,
 fun x=>(some ((Qjz) x.2),.cell (bv (Qdi x.2 x.1)),[some (.var [.imm (.string x.2.1),iv .i64 x.2.2.1,iv .i64 x.2.2.2.1,iv .i64 x.2.2.2.2.1,.ro (.int .u8) x.2.2.2.2.2])],[])⟩
theorem QGW:G0 124 QLL.spec:=by
 have e:S0 _:=(Qb (T:=tree))
 have f:=tabs e Qc;refine QLL.gd f e Tryz.func124 (fun _ _ _ h=>Qza h) fun(x:Wr×Cv) j=>?_
 have j:(Qjz) x.2:=j _ rfl
 repeat' first|(apply Ea;conv=>whnf)|apply Eb|apply Ec|apply Ed|apply Ee|(apply Ei;intro _)|apply Ef f e
 all_goals clear f e
 all_goals first
  |(show x.2.1.size+4<4611686018427387904
    have j:x.2.1.size<4611686018427387900:=j
    omega)
  |exact .k [] [0] _ R R
  |(rename_i g
    have g:Qm x.1.1 (x.2.1++Qhg)=true:=g;refine .k [] [0] _ rfl (Qj ?_);show _=bif Qm x.1.1 (x.2.1++Qhg) then Qm x.1.2 Qbn else false
    rw[g];rfl)
  |(rename_i g
    have g:Qm x.1.1 (x.2.1++Qhg)=false:=g;refine .k [] [0] _ rfl (Qj ?_);show _=bif Qm x.1.1 (x.2.1++Qhg) then Qm x.1.2 Qbn else false
    rw[g];rfl)
  |skip
structure heX where
 l:List Wr
 d:Cv
def QIG:List V1→List Blk→Option heX:=fun a b=>match a,b with
 | [.c (.ro (.pair .str .str) l),.c (.fn 124 [0])],[.var [.imm (.string s),.imm (.int .i64 t),.imm (.int .i64 y),.imm (.int .i64 cs),.ro (.int .u8) u]]=>some ⟨l,(s,t,y,cs,u)⟩
 |_,_=>none
theorem Qvb{a:List V1}{b:List Blk}{x:heX}(h:QIG a b=some x):a=[.c (.ro Qo x.l),.c (.fn 124 [0])]∧b=[.var [.imm (.string x.d.1),iv .i64 x.d.2.1,iv .i64 x.d.2.2.1,iv .i64 x.d.2.2.2.1,.ro (.int .u8) x.d.2.2.2.2]]:=by
 unfold QIG at h;split at h
 ·injection h with h;subst h;exact⟨rfl,rfl⟩
 ·cases h
def QLM:WSpec:=⟨heX,fun x=>[.c (.ro Qo x.l),.c (.fn 124 [0])],fun x=>[.var [.imm (.string x.d.1),iv .i64 x.d.2.1,iv .i64 x.d.2.2.1,iv .i64 x.d.2.2.2.1,.ro (.int .u8) x.d.2.2.2.2]],QIG,
 fun x=>(some (x.l.length≤4611686018427387904∧(Qjz) x.d),I (QbV (Qdi x.d) x.l),[some (.var [.imm (.string x.d.1),iv .i64 x.d.2.1,iv .i64 x.d.2.2.1,iv .i64 x.d.2.2.2.1,.ro (.int .u8) x.d.2.2.2.2])],[])⟩
theorem QGX:G0 201 QLM.spec:=by
 have e:S0 _:=Qa QGW (Qb (T:=tree));have f:=tabs e Qc;refine QLM.gd f e Tryz.func201 (fun _ _ _ h=>Qvb h) fun(x:heX) j=>?_
 obtain⟨hl,j⟩:x.l.length≤4611686018427387904∧(Qjz) x.d:=j _ rfl;obtain⟨l,d⟩:=x;have hl:l.length≤4611686018427387904:=hl
 repeat' first|(apply Ea;conv=>whnf)|apply Eb|apply Ec|apply Ed|apply Ee|(apply Ei;intro _)|apply Ef f e
 refine QA f e (A:=Unit) l.length (fun i _=>St.mk ((.cell (.ro Qo l))::(.cell (.fn 124 [0]))::E5 ((I l.length)::(I i)::E10 [])) [some (.var [.imm (.string d.1),iv .i64 d.2.1,iv .i64 d.2.2.1,iv .i64 d.2.2.2.1,.ro (.int .u8) d.2.2.2.2])])
  (fun k _=>QdO (Qdi d) (l.drop k) k=QbV (Qdi d) l) () (Le.mk [] [0] R R R ?_) rfl fun k _ hk q=>?_
 ·repeat' constructor
 repeat' first|(apply Ea;conv=>whnf)|apply Eb|apply Ec|apply Ed|apply Ee|(apply Ei;intro _)|apply Ef f e
 all_goals clear f e
 ·rename_i m;have m:(k:Int)<(l.length:Int):=m;show 0≤(k:Int)∧(k:Int)<(l.length:Int);omega
 ·first|exact j|exact trivial
 ·rename_i m n;have m:(k:Int)<(l.length:Int):=m;exact .k [] [0] _ rfl (Qd (QdG (dflt Qo) (by omega) n q))
 ·rename_i m n;have m:(k:Int)<(l.length:Int):=m
  have hp:¬Qdi d (l.getD k (dflt Qo))=true:=by
   have n:Qdi d (l.getD k (dflt Qo))=false:=n;rw[n];decide
  apply Ex () [] [0]
  ·repeat' constructor
  ·omega
  ·exact QJ (by omega)
  exact Qbu (dflt Qo) (by omega) hp q
 ·rename_i m;have m:¬(k:Int)<(l.length:Int):=m;exact .k [] [0] _ rfl (Qd (QcO (by omega) q))
def QLN:WSpec:=⟨heX,fun x=>[.c (.ro Qo x.l),.c (.fn 124 [0])],fun x=>[.var [.imm (.string x.d.1),iv .i64 x.d.2.1,iv .i64 x.d.2.2.1,iv .i64 x.d.2.2.2.1,.ro (.int .u8) x.d.2.2.2.2]],QIG,
 fun x=>(some (x.l.length≤4611686018427387904∧(Qjz) x.d),.cell (bv (x.l.any (Qdi x.d))),[some (.var [.imm (.string x.d.1),iv .i64 x.d.2.1,iv .i64 x.d.2.2.1,iv .i64 x.d.2.2.2.1,.ro (.int .u8) x.d.2.2.2.2])],[])⟩
theorem QGY:G0 123 QLN.spec:=by
 have e:S0 _:=Qa QGX (Qb (T:=tree));have f:=tabs e Qc;refine QLN.gd f e Tryz.func123 (fun _ _ _ h=>Qvb h) fun(x:heX) j=>?_
 have j:x.l.length≤4611686018427387904∧(Qjz) x.d:=j _ rfl;obtain⟨l,d⟩:=x
 repeat' first|(apply Ea;conv=>whnf)|apply Eb|apply Ec|apply Ed|apply Ee|(apply Ei;intro _)|apply Ef f e
 all_goals clear f e
 ·first|exact j|exact trivial
 ·exact .k [] [0] _ rfl (Qj (Qiq (Qdi d) l))
structure bfX where
 l:List Wr
 d:Cv
theorem QF{x y:ByteArray}:Qm x y=true↔x=y:=Lib.bytes_beq_iff x y
theorem Qvz{x y:Wr}:QD Qo x y=true↔x=y:=⟨fun h=>Qdw (u:=Qo) rfl h,fun h=>by subst h;show(Qm x.1 x.1&&Qm x.2 x.2)=true;rw[QF.2 rfl,QF.2 rfl];rfl⟩
abbrev gWr:Sig:=⟨true,Qo⟩
def Qc0(v w:Wr):Bool:=QD Qo v w
def QHl:PSpec:=⟨[⟨false,.sl Qo⟩,gWr],fun(l,v,_)=>(some (List.length l≤4611686018427387904),I (QbV (Qc0 v) l),[])⟩
theorem QD6:G0 106 QHl.spec:=by
 have a:S0 _:=(Qb (T:=tree))
 have c:=tabs a Qc;refine QHl.gd c a Tryz.func106 fun(l:List Wr) (v:Wr) d=>?_
 have hl:l.length≤4611686018427387904:=d _ rfl;obtain⟨va,vb⟩:=v;clear d
 repeat' first|(apply Ea;conv=>whnf)|apply Eb|apply Ec|apply Ed|apply Ee|(apply Ei;intro _)|apply Ef c a
 refine QA c a (A:=Unit) l.length (fun i _=>St.mk ((.cell (.ro Qo l))::E2 ((.cell (.ptr 0 0))::E3 ((I l.length)::(I i)::E10 []))) [some (.var [.imm (.string va),.imm (.string vb)])])
  (fun k _=>QdO (Qc0 (va,vb)) (l.drop k) k=QbV (Qc0 (va,vb)) l) () (Le.mk [] [0] R R R ?_) rfl fun k _ hk f=>?_
 ·repeat' constructor
 repeat' first|(apply Ea;conv=>whnf)|apply Eb|apply Ec|apply Ed|apply Ee|(apply Ei;intro _)|apply Ef c a
 all_goals clear c a
 ·rename_i b;have b:(k:Int)<(l.length:Int):=b;show 0≤(k:Int)∧(k:Int)<(l.length:Int);omega
 ·rename_i b e;have b:(k:Int)<(l.length:Int):=b;exact .k [] [] _ rfl (Qd (QdG (dflt Qo) (by omega) e f))
 ·rename_i b e;have b:(k:Int)<(l.length:Int):=b
  have hp:¬Qc0 (va,vb) (l.getD k (dflt Qo))=true:=by
   have e:Qc0 (va,vb) (l.getD k (dflt Qo))=false:=e;rw[e];decide
  apply Ex () [] [0]
  ·repeat' constructor
  ·omega
  ·exact QJ (by omega)
  exact Qbu (dflt Qo) (by omega) hp f
 ·rename_i b;have b:¬(k:Int)<(l.length:Int):=b;exact .k [] [] _ rfl (Qd (QcO (by omega) f))
def QHm:PSpec:=⟨[⟨false,.sl Qo⟩,gWr],fun(l,v,_)=>(some (List.length l≤4611686018427387904),.cell (bv (l.any (Qc0 v))),[])⟩
theorem QvA:G0 57 QHm.spec:=by
 have a:S0 _:=Qa QD6 (Qb (T:=tree));have c:=tabs a Qc;refine QHm.gd c a Tryz.func57 fun(l:List Wr) (v:Wr) d=>?_
 have hl:l.length≤4611686018427387904:=d _ rfl;obtain⟨va,vb⟩:=v;clear d
 repeat' first|(apply Ea;conv=>whnf)|apply Eb|apply Ec|apply Ed|apply Ee|(apply Ei;intro _)|apply Ef c a
 all_goals clear c a
 ·exact hl
 ·exact .k [] [] _ rfl (Qj (Qiq (Qc0 (va,vb)) l))
end Go.Proofs.YtofgbclopbmlcaaGreat

