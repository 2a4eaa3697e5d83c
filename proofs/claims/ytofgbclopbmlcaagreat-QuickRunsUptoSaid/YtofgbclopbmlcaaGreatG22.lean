/- Part 22 of the proof. Conditions: none. -/
import Derived.Test.YtofgbclopbmlcaaGreatG21
import Derived.Test.YtofgbclopbmlcaaGreatG18
namespace Go.Proofs.YtofgbclopbmlcaaGreat
open Go.IntKind (i64)
set_option maxHeartbeats 8000000
open Go.Fw
set_option linter.unusedVariables false
set_option linter.unusedSimpArgs false
set_option maxRecDepth 100000
def QAn:PSpec:=⟨[gD,gi],fun(d,k,_)=>(some (k≤10000000),Qfb,[.arr (.int .i64) (Qq QaO k.toNat (Qah d.1))])⟩
theorem QxN:G0 161 QAn.spec:=by
 have hP:S0 _:=Qa Qdx (Qa Qpf (Qa QCk (Qb (T:=tree))));have hT:=tabs hP Qc;refine QAn.gd hT hP Tryz.func161 fun(d:Dv) (k:Int) hp=>?_
 obtain⟨N,M⟩:=d;have hk:k≤10000000:=hp _ rfl;have eK:imin k 10000000=k:=by rw[QU];omega
 obtain⟨A,hA⟩:∃A,A=Qq (Qx 1) (imin k 10000000).toNat (vo N 0):=⟨_,rfl⟩
 have hAo:vOk A:=by rw[hA];exact QfG (Qaf N 0) _
 repeat' first|(apply Ea;conv=>whnf)|apply Eb|apply Ec<;>intro _|apply Ed<;>intro _|apply Ee<;>intro _|apply Ef hT hP|apply Eg hT hP
 refine QX 3 ?_
 repeat' first|(apply Ea;conv=>whnf)|apply Eb|apply Ec<;>intro _|apply Ed<;>intro _|apply Ee<;>intro _|apply Ef hT hP|apply Eg hT hP
 all_goals first
  |exact of_decide_eq_true rfl
  |skip
 refine Qai hT hP (X:=Int×List Int) (fun(r,a)=>St.mk (E1 ((I (imin k 10000000))::E2 ((.cell (.ptr 0 0))::(.cell (.own 1))::E1 ((.cell (.sub 1 0 6))::(I r)::E5 ((I 0)::E20 (E10 (E5 []))))))) [some (.var [.imm (.slice none 0 0),.imm (.slice none 0 0)]),some (.arr (.int .i64) (a++vo N 6))])
  (fun(r,a)=>r≤imin k 10000000∧vOk a∧Qq (Qx 1) r.toNat a=Qq (Qx 1) (imin k 10000000).toNat (vo N 0)) (fun(r,_)=>r.toNat) (imin k 10000000,vo N 0) (Le.mk [] [1,2] R R ?_ ?_) ?_ fun(r,a) hi=>?_
 rotate_right
 repeat' first|(apply Ea;conv=>whnf)|apply Eb|apply Ec<;>intro _|apply Ed<;>intro _|apply Ee<;>intro _|apply Ef hT hP|apply Eg hT hP
 rotate_right 3
 ·exact rfl
 ·repeat' constructor
 ·exact⟨Int.le_refl _,Qaf N 0,rfl⟩
 all_goals
  obtain⟨hr,ha,hit⟩:=hi;have hrk:r≤10000000:=by rw[eK] at hr;omega
  have hq0:=Qc8 ha;have e6:(((a++vo N 6).drop 0).take 6)=a:=QLM ha.len;have ep:∀q,Qb1 0 (a++vo N 6) q=Qx q a++vo N 6:=fun q=>QtU ha.len q
  have el:(a++vo N 6).length=12:=by rw[List.length_append,ha.len];rfl
  have ew:i64.wrap (Qg a+1)=Qg a+1:=w64 (by omega) (by omega);have ew2:r>0→i64.wrap (r-(Qg a+1))=r-(Qg a+1):=fun h=>w64 (by omega) (by omega)
 all_goals first
  |exact of_decide_eq_true rfl
  |(show vOk (((a++vo N 6).drop 0).take 6)
    rw[e6];exact ha)
  |skip
 ·rename_i h0 h1;have h0:r>0:=h0;exact⟨.inl rfl,⟨a,vo N 6,rfl,ha,Qaf N 6⟩,(by omega:0≤r),hrk⟩
 ·show(0:Int)≤6∧(6:Int)≤12∧(12:Int)≤((Qb1 0 (a++vo N 6) r).length:Nat);rw[ep,List.length_append,QlY,ha.len,show(vo N 6).length=6 from rfl];decide
 ·rename_i h0 h1;have h0:r>0:=h0;have ee:Qb1 0 (a++vo N 6) r=A++vo N 6:=by rw[ep,QbW ha h0 (.inl (by have h1:Qg (((a++vo N 6).drop 0).take 6)≥r:=h1;rw[e6] at h1;exact h1)),hit,hA]
  refine Qai hT hP (X:=Int×List Int) (fun(r,a)=>St.mk (E1 ((I (imin k 10000000))::E2 ((.cell (.ptr 0 0))::(.cell (.own 1))::E1 ((.cell (.sub 1 6 6))::(I r)::E5 ((I (i64.wrap (0+1)))::E20 (E10 (E5 []))))))) [some (.var [.imm (.slice none 0 0),.imm (.slice none 0 0)]),some (.arr (.int .i64) (A++a))])
   (fun(r,a)=>r≤imin k 10000000∧vOk a∧Qq (Qx 1) r.toNat a=Qq (Qx 1) (imin k 10000000).toNat (vo N 6)) (fun(r,_)=>r.toNat) (imin k 10000000,vo N 6) (Le.mk [] [0,1] R R ?_ ?_) ?_ fun(r,a) hi=>?_
  rotate_right
  repeat' first|(apply Ea;conv=>whnf)|apply Eb|apply Ec<;>intro _|apply Ed<;>intro _|apply Ee<;>intro _|apply Ef hT hP|apply Eg hT hP
  rotate_right 3
  ·exact Qnq ee
  ·repeat' constructor
  ·exact⟨Int.le_refl _,Qaf N 6,rfl⟩
  all_goals
   obtain⟨hr,ha,hit⟩:=hi;have hrk:r≤10000000:=by rw[eK] at hr;omega
   have hq0:=Qc8 ha;have e6:(((A++a).drop 6).take 6)=a:=QIT hAo.len ha.len;have ep:∀q,Qb1 6 (A++a) q=A++Qx q a:=fun q=>QhZ hAo.len ha.len q
   have el:(A++a).length=12:=by rw[List.length_append,hAo.len,ha.len]
   have ew:i64.wrap (Qg a+1)=Qg a+1:=w64 (by omega) (by omega);have ew2:r>0→i64.wrap (r-(Qg a+1))=r-(Qg a+1):=fun h=>w64 (by omega) (by omega)
  all_goals first
   |exact of_decide_eq_true rfl
   |(show vOk (((A++a).drop 6).take 6)
     rw[e6];exact ha)
   |skip
  ·rename_i h0 h1;have h0:r>0:=h0;exact⟨.inr rfl,⟨A,a,rfl,hAo,ha⟩,(by omega:0≤r),hrk⟩
  ·rename_i h0 h1;have h0:r>0:=h0;refine .mk [] [1] _ R R R R R (Ql (l:=Qb1 6 (A++a) r) ?_) rfl;show _=Qq QaO k.toNat (Qah N);rw[ep,QbW ha h0 (.inl (by have h1:Qg (((A++a).drop 6).take 6)≥r:=h1;rw[e6] at h1;exact h1)),hit,Qah,Qh1 (Qaf N 0) (Qaf N 6),hA,eK]
  ·rename_i h0 h1 h2;have h0:r>0:=h0;exact⟨.inr rfl,⟨A,a,rfl,hAo,ha⟩,(by omega:0≤r),hrk⟩
  ·rename_i h0 h1 h2;have h0:r>0:=h0;refine .mk [] [1] _ R R R R R (Ql (l:=Qb1 6 (A++a) r) ?_) rfl;show _=Qq QaO k.toNat (Qah N);rw[ep,QbW ha h0 (.inr (by have h2:Qg (((A++a).drop 6).take 6)=100000:=h2;rw[e6] at h2;exact h2)),hit,Qah,Qh1 (Qaf N 0) (Qaf N 6),hA,eK]
  ·rename_i h0 h1 h2;have h0:r>0:=h0;exact⟨.inr rfl,⟨A,a,rfl,hAo,ha⟩,(by rw[e6,ew];omega:0≤i64.wrap (Qg (((A++a).drop 6).take 6)+1)),(by rw[e6,ew];omega:i64.wrap (Qg (((A++a).drop 6).take 6)+1)≤10000000)⟩
  ·rename_i h0 h1 h2;have h0:r>0:=h0;have h1:¬Qg (((A++a).drop 6).take 6)≥r:=h1;rw[e6] at h1;have er:i64.wrap (r-i64.wrap (Qg (((A++a).drop 6).take 6)+1))=r-(Qg a+1):=by rw[e6,ew,ew2 h0]
   have eb:Qb1 6 (A++a) (i64.wrap (Qg (((A++a).drop 6).take 6)+1))=A++Qx (Qg a+1) a:=by rw[e6,ew,ep]
   apply Exists.intro (_,Qx (Qg a+1) a);refine And.intro ?_ (And.intro ?_ (Le.mk [] [0,1] R R (Qnq eb) ?ht))
   case ht=>repeat' constructor
   ·show i64.wrap (r-i64.wrap (Qg (((A++a).drop 6).take 6)+1))≤imin k 10000000∧vOk (Qx (Qg a+1) a)∧Qq (Qx 1) (i64.wrap (r-i64.wrap (Qg (((A++a).drop 6).take 6)+1))).toNat (Qx (Qg a+1) a)=_;rw[er,Qen ha (by omega)];exact⟨by omega,QbO ha (by omega),hit⟩
   ·show(i64.wrap (r-i64.wrap (Qg (((A++a).drop 6).take 6)+1))).toNat<r.toNat;rw[er];omega
  ·rename_i h0;have h0:¬r>0:=h0;refine .mk [] [1] _ R R R R R (Ql (l:=A++a) ?_) rfl;show _=Qq QaO k.toNat (Qah N);have e0:r.toNat=0:=by omega
   rw[e0] at hit;have hit:a=_:=hit;rw[hit,Qah,Qh1 (Qaf N 0) (Qaf N 6),hA,eK]
 ·rename_i h0 h1 h2;have h0:r>0:=h0;exact⟨.inl rfl,⟨a,vo N 6,rfl,ha,Qaf N 6⟩,(by omega:0≤r),hrk⟩
 ·show(0:Int)≤6∧(6:Int)≤12∧(12:Int)≤((Qb1 0 (a++vo N 6) r).length:Nat);rw[ep,List.length_append,QlY,ha.len,show(vo N 6).length=6 from rfl];decide
 ·rename_i h0 h1 h2;have h0:r>0:=h0;have ee:Qb1 0 (a++vo N 6) r=A++vo N 6:=by rw[ep,QbW ha h0 (.inr (by have h2:Qg (((a++vo N 6).drop 0).take 6)=100000:=h2;rw[e6] at h2;exact h2)),hit,hA]
  refine Qai hT hP (X:=Int×List Int) (fun(r,a)=>St.mk (E1 ((I (imin k 10000000))::E2 ((.cell (.ptr 0 0))::(.cell (.own 1))::E1 ((.cell (.sub 1 6 6))::(I r)::E5 ((I (i64.wrap (0+1)))::E20 (E10 (E5 []))))))) [some (.var [.imm (.slice none 0 0),.imm (.slice none 0 0)]),some (.arr (.int .i64) (A++a))])
   (fun(r,a)=>r≤imin k 10000000∧vOk a∧Qq (Qx 1) r.toNat a=Qq (Qx 1) (imin k 10000000).toNat (vo N 6)) (fun(r,_)=>r.toNat) (imin k 10000000,vo N 6) (Le.mk [] [0,1] R R ?_ ?_) ?_ fun(r,a) hi=>?_
  rotate_right
  repeat' first|(apply Ea;conv=>whnf)|apply Eb|apply Ec<;>intro _|apply Ed<;>intro _|apply Ee<;>intro _|apply Ef hT hP|apply Eg hT hP
  rotate_right 3
  ·exact Qnq ee
  ·repeat' constructor
  ·exact⟨Int.le_refl _,Qaf N 6,rfl⟩
  all_goals
   obtain⟨hr,ha,hit⟩:=hi;have hrk:r≤10000000:=by rw[eK] at hr;omega
   have hq0:=Qc8 ha;have e6:(((A++a).drop 6).take 6)=a:=QIT hAo.len ha.len;have ep:∀q,Qb1 6 (A++a) q=A++Qx q a:=fun q=>QhZ hAo.len ha.len q
   have el:(A++a).length=12:=by rw[List.length_append,hAo.len,ha.len]
   have ew:i64.wrap (Qg a+1)=Qg a+1:=w64 (by omega) (by omega);have ew2:r>0→i64.wrap (r-(Qg a+1))=r-(Qg a+1):=fun h=>w64 (by omega) (by omega)
  all_goals first
   |exact of_decide_eq_true rfl
   |(show vOk (((A++a).drop 6).take 6)
     rw[e6];exact ha)
   |skip
  ·rename_i h0 h1;have h0:r>0:=h0;exact⟨.inr rfl,⟨A,a,rfl,hAo,ha⟩,(by omega:0≤r),hrk⟩
  ·rename_i h0 h1;have h0:r>0:=h0;refine .mk [] [1] _ R R R R R (Ql (l:=Qb1 6 (A++a) r) ?_) rfl;show _=Qq QaO k.toNat (Qah N);rw[ep,QbW ha h0 (.inl (by have h1:Qg (((A++a).drop 6).take 6)≥r:=h1;rw[e6] at h1;exact h1)),hit,Qah,Qh1 (Qaf N 0) (Qaf N 6),hA,eK]
  ·rename_i h0 h1 h2;have h0:r>0:=h0;exact⟨.inr rfl,⟨A,a,rfl,hAo,ha⟩,(by omega:0≤r),hrk⟩
  ·rename_i h0 h1 h2;have h0:r>0:=h0;refine .mk [] [1] _ R R R R R (Ql (l:=Qb1 6 (A++a) r) ?_) rfl;show _=Qq QaO k.toNat (Qah N);rw[ep,QbW ha h0 (.inr (by have h2:Qg (((A++a).drop 6).take 6)=100000:=h2;rw[e6] at h2;exact h2)),hit,Qah,Qh1 (Qaf N 0) (Qaf N 6),hA,eK]
  ·rename_i h0 h1 h2;have h0:r>0:=h0;exact⟨.inr rfl,⟨A,a,rfl,hAo,ha⟩,(by rw[e6,ew];omega:0≤i64.wrap (Qg (((A++a).drop 6).take 6)+1)),(by rw[e6,ew];omega:i64.wrap (Qg (((A++a).drop 6).take 6)+1)≤10000000)⟩
  ·rename_i h0 h1 h2;have h0:r>0:=h0;have h1:¬Qg (((A++a).drop 6).take 6)≥r:=h1;rw[e6] at h1;have er:i64.wrap (r-i64.wrap (Qg (((A++a).drop 6).take 6)+1))=r-(Qg a+1):=by rw[e6,ew,ew2 h0]
   have eb:Qb1 6 (A++a) (i64.wrap (Qg (((A++a).drop 6).take 6)+1))=A++Qx (Qg a+1) a:=by rw[e6,ew,ep]
   apply Exists.intro (_,Qx (Qg a+1) a);refine And.intro ?_ (And.intro ?_ (Le.mk [] [0,1] R R (Qnq eb) ?ht))
   case ht=>repeat' constructor
   ·show i64.wrap (r-i64.wrap (Qg (((A++a).drop 6).take 6)+1))≤imin k 10000000∧vOk (Qx (Qg a+1) a)∧Qq (Qx 1) (i64.wrap (r-i64.wrap (Qg (((A++a).drop 6).take 6)+1))).toNat (Qx (Qg a+1) a)=_;rw[er,Qen ha (by omega)];exact⟨by omega,QbO ha (by omega),hit⟩
   ·show(i64.wrap (r-i64.wrap (Qg (((A++a).drop 6).take 6)+1))).toNat<r.toNat;rw[er];omega
  ·rename_i h0;have h0:¬r>0:=h0;refine .mk [] [1] _ R R R R R (Ql (l:=A++a) ?_) rfl;show _=Qq QaO k.toNat (Qah N);have e0:r.toNat=0:=by omega
   rw[e0] at hit;have hit:a=_:=hit;rw[hit,Qah,Qh1 (Qaf N 0) (Qaf N 6),hA,eK]
 ·rename_i h0 h1 h2;have h0:r>0:=h0;exact⟨.inl rfl,⟨a,vo N 6,rfl,ha,Qaf N 6⟩,(by rw[e6,ew];omega:0≤i64.wrap (Qg (((a++vo N 6).drop 0).take 6)+1)),(by rw[e6,ew];omega:i64.wrap (Qg (((a++vo N 6).drop 0).take 6)+1)≤10000000)⟩
 ·rename_i h0 h1 h2;have h0:r>0:=h0;have h1:¬Qg (((a++vo N 6).drop 0).take 6)≥r:=h1;rw[e6] at h1;have er:i64.wrap (r-i64.wrap (Qg (((a++vo N 6).drop 0).take 6)+1))=r-(Qg a+1):=by rw[e6,ew,ew2 h0]
  have eb:Qb1 0 (a++vo N 6) (i64.wrap (Qg (((a++vo N 6).drop 0).take 6)+1))=Qx (Qg a+1) a++vo N 6:=by rw[e6,ew,ep]
  apply Exists.intro (_,Qx (Qg a+1) a);refine And.intro ?_ (And.intro ?_ (Le.mk [] [0,1] R R (Qnq eb) ?ht))
  case ht=>repeat' constructor
  ·show i64.wrap (r-i64.wrap (Qg (((a++vo N 6).drop 0).take 6)+1))≤imin k 10000000∧vOk (Qx (Qg a+1) a)∧Qq (Qx 1) (i64.wrap (r-i64.wrap (Qg (((a++vo N 6).drop 0).take 6)+1))).toNat (Qx (Qg a+1) a)=_;rw[er,Qen ha (by omega)];exact⟨by omega,QbO ha (by omega),hit⟩
  ·show(i64.wrap (r-i64.wrap (Qg (((a++vo N 6).drop 0).take 6)+1))).toNat<r.toNat;rw[er];omega
 ·show(0:Int)≤6∧(6:Int)≤12∧(12:Int)≤((a++vo N 6).length:Nat);rw[el];decide
 ·rename_i h0;have h0:¬r>0:=h0
  have ee:a++vo N 6=A++vo N 6:=by
   have e0:r.toNat=0:=by omega
   rw[e0] at hit;rw[hA,←hit];rfl
  refine Qai hT hP (X:=Int×List Int) (fun(r,a)=>St.mk (E1 ((I (imin k 10000000))::E2 ((.cell (.ptr 0 0))::(.cell (.own 1))::E1 ((.cell (.sub 1 6 6))::(I r)::E5 ((I (i64.wrap (0+1)))::E20 (E10 (E5 []))))))) [some (.var [.imm (.slice none 0 0),.imm (.slice none 0 0)]),some (.arr (.int .i64) (A++a))])
   (fun(r,a)=>r≤imin k 10000000∧vOk a∧Qq (Qx 1) r.toNat a=Qq (Qx 1) (imin k 10000000).toNat (vo N 6)) (fun(r,_)=>r.toNat) (imin k 10000000,vo N 6) (Le.mk [] [0,1] R R ?_ ?_) ?_ fun(r,a) hi=>?_
  rotate_right
  repeat' first|(apply Ea;conv=>whnf)|apply Eb|apply Ec<;>intro _|apply Ed<;>intro _|apply Ee<;>intro _|apply Ef hT hP|apply Eg hT hP
  rotate_right 3
  ·exact Qnq ee
  ·repeat' constructor
  ·exact⟨Int.le_refl _,Qaf N 6,rfl⟩
  all_goals
   obtain⟨hr,ha,hit⟩:=hi;have hrk:r≤10000000:=by rw[eK] at hr;omega
   have hq0:=Qc8 ha;have e6:(((A++a).drop 6).take 6)=a:=QIT hAo.len ha.len;have ep:∀q,Qb1 6 (A++a) q=A++Qx q a:=fun q=>QhZ hAo.len ha.len q
   have el:(A++a).length=12:=by rw[List.length_append,hAo.len,ha.len]
   have ew:i64.wrap (Qg a+1)=Qg a+1:=w64 (by omega) (by omega);have ew2:r>0→i64.wrap (r-(Qg a+1))=r-(Qg a+1):=fun h=>w64 (by omega) (by omega)
  all_goals first
   |exact of_decide_eq_true rfl
   |(show vOk (((A++a).drop 6).take 6)
     rw[e6];exact ha)
   |skip
  ·rename_i h0 h1;have h0:r>0:=h0;exact⟨.inr rfl,⟨A,a,rfl,hAo,ha⟩,(by omega:0≤r),hrk⟩
  ·rename_i h0 h1;have h0:r>0:=h0;refine .mk [] [1] _ R R R R R (Ql (l:=Qb1 6 (A++a) r) ?_) rfl;show _=Qq QaO k.toNat (Qah N);rw[ep,QbW ha h0 (.inl (by have h1:Qg (((A++a).drop 6).take 6)≥r:=h1;rw[e6] at h1;exact h1)),hit,Qah,Qh1 (Qaf N 0) (Qaf N 6),hA,eK]
  ·rename_i h0 h1 h2;have h0:r>0:=h0;exact⟨.inr rfl,⟨A,a,rfl,hAo,ha⟩,(by omega:0≤r),hrk⟩
  ·rename_i h0 h1 h2;have h0:r>0:=h0;refine .mk [] [1] _ R R R R R (Ql (l:=Qb1 6 (A++a) r) ?_) rfl;show _=Qq QaO k.toNat (Qah N);rw[ep,QbW ha h0 (.inr (by have h2:Qg (((A++a).drop 6).take 6)=100000:=h2;rw[e6] at h2;exact h2)),hit,Qah,Qh1 (Qaf N 0) (Qaf N 6),hA,eK]
  ·rename_i h0 h1 h2;have h0:r>0:=h0;exact⟨.inr rfl,⟨A,a,rfl,hAo,ha⟩,(by rw[e6,ew];omega:0≤i64.wrap (Qg (((A++a).drop 6).take 6)+1)),(by rw[e6,ew];omega:i64.wrap (Qg (((A++a).drop 6).take 6)+1)≤10000000)⟩
  ·rename_i h0 h1 h2;have h0:r>0:=h0;have h1:¬Qg (((A++a).drop 6).take 6)≥r:=h1;rw[e6] at h1;have er:i64.wrap (r-i64.wrap (Qg (((A++a).drop 6).take 6)+1))=r-(Qg a+1):=by rw[e6,ew,ew2 h0]
   have eb:Qb1 6 (A++a) (i64.wrap (Qg (((A++a).drop 6).take 6)+1))=A++Qx (Qg a+1) a:=by rw[e6,ew,ep]
   apply Exists.intro (_,Qx (Qg a+1) a);refine And.intro ?_ (And.intro ?_ (Le.mk [] [0,1] R R (Qnq eb) ?ht))
   case ht=>repeat' constructor
   ·show i64.wrap (r-i64.wrap (Qg (((A++a).drop 6).take 6)+1))≤imin k 10000000∧vOk (Qx (Qg a+1) a)∧Qq (Qx 1) (i64.wrap (r-i64.wrap (Qg (((A++a).drop 6).take 6)+1))).toNat (Qx (Qg a+1) a)=_;rw[er,Qen ha (by omega)];exact⟨by omega,QbO ha (by omega),hit⟩
   ·show(i64.wrap (r-i64.wrap (Qg (((A++a).drop 6).take 6)+1))).toNat<r.toNat;rw[er];omega
  ·rename_i h0;have h0:¬r>0:=h0;refine .mk [] [1] _ R R R R R (Ql (l:=A++a) ?_) rfl;show _=Qq QaO k.toNat (Qah N);have e0:r.toNat=0:=by omega
   rw[e0] at hit;have hit:a=_:=hit;rw[hit,Qah,Qh1 (Qaf N 0) (Qaf N 6),hA,eK]
theorem oR(N:List Int):(0≤N.getD 0 0%4096∧N.getD 0 0%4096<4096)∧(0≤N.getD 1 0%16∧N.getD 1 0%16<16)∧(0≤N.getD 4 0%2∧N.getD 4 0%2<2)∧(0≤N.getD 6 0%4096∧N.getD 6 0%4096<4096)∧(0≤N.getD 7 0%16∧N.getD 7 0%16<16)∧(0≤N.getD 10 0%2∧N.getD 10 0%2<2):=by omega
theorem QlZ{a b:Int}(h1:0≤a∧a<16)(h2:0≤b∧b<2):0≤a*b∧a*b<16:=by
 have:b=0∨b=1:=by omega
 rcases this with rfl|rfl<;>omega
def QiL(N:List Int):Int:=N.getD 1 0%16*(N.getD 4 0%2)+N.getD 7 0%16*(N.getD 10 0%2)
def QE3:PSpec:=⟨[gD],fun(d,_)=>(none,I (QiL d.1),[])⟩
theorem Ql0(N:List Int):i64.wrap (i64.wrap (N.getD 1 0%16*(N.getD 4 0%2))+i64.wrap (N.getD 7 0%16*(N.getD 10 0%2)))=QiL N:=by
 obtain⟨h0,h1,h2,h3,h4,h5⟩:=oR N;have m1:=QlZ h1 h2;have m2:=QlZ h4 h5;rw[w64 (x:=N.getD 1 0%16*(N.getD 4 0%2)) (by omega) (by omega),w64 (x:=N.getD 7 0%16*(N.getD 10 0%2)) (by omega) (by omega),w64 (by omega) (by omega)];rfl
theorem QCl:G0 218 QE3.spec:=by
 have hP:S0 _:=Qa Qdx (Qb (T:=tree));have hT:=tabs hP Qc;refine QE3.gd hT hP Tryz.func218 fun(d:Dv) _=>?_
 obtain⟨N,M⟩:=d
 repeat' first|(apply Ea;conv=>whnf)|apply Eb|apply Ec<;>intro _|apply Ed<;>intro _|apply Ee<;>intro _|apply Ef hT hP
 all_goals first
  |exact of_decide_eq_true rfl
  |(refine .k [] [] _ rfl (Qd ?_)
    exact Ql0 N)
  |skip
def Qpg(N:List Int):Int:=min (Qg (vo N 0)) (Qg (vo N 6))
def QAo:PSpec:=⟨[gD],fun(d,_)=>(none,I (Qpg d.1),[])⟩
theorem QxO:G0 152 QAo.spec:=by
 have hP:S0 _:=Qa Qdx (Qa Qpf (Qb (T:=tree)));have hT:=tabs hP Qc;refine QAo.gd hT hP Tryz.func152 fun(d:Dv) _=>?_
 obtain⟨N,M⟩:=d
 repeat' first|(apply Ea;conv=>whnf)|apply Eb|apply Ec<;>intro _|apply Ed<;>intro _|apply Ee<;>intro _|apply Ef hT hP
 all_goals first
  |exact of_decide_eq_true rfl
  |exact Qaf N 0
  |exact Qaf N 6
  |(refine .k [] [] _ rfl (Qd ?_)
    show imin (Qg (vo N 0)) (Qg (vo N 6))=Qpg N
    rw[QU];rfl)
  |skip
def Qkc:WSpec:=⟨List Int×Int,fun x=>[.c (.own 0),I1 x.2],fun x=>[.arr (.int .i64) x.1],fun a b=>(match a,b with| [.c (.own 0),.c (.imm (.int .i64 k))],[.arr (.int .i64) n]=>some (n,k)|_,_=>none),
 fun x=>(some ((0≤x.2∧x.2<4)∧List.length x.1=12),.cell (.sub 0 0 6),[some (.arr (.int .i64) x.1)],[])⟩
theorem Qje:G0 235 Qkc.spec:=by
 have hP:S0 _:=(Qb (T:=tree))
 have hT:=tabs hP Qc;refine Qkc.gd hT hP Tryz.func235 ?_ fun((l,a):List Int×Int) hq=>?_
 ·intro a b x h;simp only[Qkc] at h;split at h
  ·injection h with h;subst h;exact⟨rfl,rfl⟩
  ·cases h
 obtain⟨hp,hl⟩:(0≤a∧a<4)∧l.length=12:=hq _ rfl;have ha:a=0∨a=1∨a=2∨a=3:=by omega
 rcases ha with rfl|rfl|rfl|rfl
 all_goals
  repeat' first|(apply Ea;conv=>whnf)|apply Eb|apply Ec<;>intro _|apply Ed<;>intro _|apply Ee<;>intro _|apply Ef hT hP
  all_goals first
   |exact of_decide_eq_true rfl
   |(exfalso;rename_i h;revert h;decide)
   |(show(0:Int)≤0∧(0:Int)≤6∧(6:Int)≤(l.length:Nat)
     rw[hl];decide)
   |exact .k [] [0] _ R R
   |skip
def Qkd:WSpec:=⟨List Int×Int,fun x=>[.c (.own 0),I1 x.2],fun x=>[.arr (.int .i64) x.1],fun a b=>(match a,b with| [.c (.own 0),.c (.imm (.int .i64 k))],[.arr (.int .i64) n]=>some (n,k)|_,_=>none),
 fun x=>(some ((4≤x.2∧x.2<8)∧List.length x.1=12),.cell (.sub 0 6 6),[some (.arr (.int .i64) x.1)],[])⟩
theorem Qjf:G0 235 Qkd.spec:=by
 have hP:S0 _:=(Qb (T:=tree))
 have hT:=tabs hP Qc;refine Qkd.gd hT hP Tryz.func235 ?_ fun((l,a):List Int×Int) hq=>?_
 ·intro a b x h;simp only[Qkd] at h;split at h
  ·injection h with h;subst h;exact⟨rfl,rfl⟩
  ·cases h
 obtain⟨hp,hl⟩:(4≤a∧a<8)∧l.length=12:=hq _ rfl;have ha:a=4∨a=5∨a=6∨a=7:=by omega
 rcases ha with rfl|rfl|rfl|rfl
 all_goals
  repeat' first|(apply Ea;conv=>whnf)|apply Eb|apply Ec<;>intro _|apply Ed<;>intro _|apply Ee<;>intro _|apply Ef hT hP
  all_goals first
   |exact of_decide_eq_true rfl
   |(exfalso;rename_i h;revert h;decide)
   |(show(0:Int)≤6∧(6:Int)≤12∧(12:Int)≤(l.length:Nat)
     rw[hl];decide)
   |exact .k [] [0] _ R R
   |skip
def Qke:WSpec:=⟨List Int×Int,fun x=>[.c (.own 0),I1 x.2],fun x=>[.arr (.int .i64) x.1],fun a b=>(match a,b with| [.c (.own 0),.c (.imm (.int .i64 k))],[.arr (.int .i64) n]=>some (n,k)|_,_=>none),
 fun x=>(some (x.2<0∨x.2≥8),.cell (.imm (.slice none 0 0)),[some (.arr (.int .i64) x.1)],[])⟩
theorem Qjg:G0 235 Qke.spec:=by
 have hP:S0 _:=(Qb (T:=tree))
 have hT:=tabs hP Qc;refine Qke.gd hT hP Tryz.func235 ?_ fun((l,a):List Int×Int) hq=>?_
 ·intro a b x h;simp only[Qke] at h;split at h
  ·injection h with h;subst h;exact⟨rfl,rfl⟩
  ·cases h
 have hp:a<0∨a≥8:=hq _ rfl
 repeat' first|(apply Ea;conv=>whnf)|apply Eb|apply Ec<;>intro _|apply Ed<;>intro _|apply Ee<;>intro _|apply Ef hT hP
 all_goals first
  |exact .k [] [0] _ R R
  |(exfalso;dsimp only at *;omega)
  |skip
def orF(N:List Int)(a:Int):Int:=QbU [N.getD 0 0%4096%256,N.getD 0 0%4096/256,N.getD 1 0%16,N.getD 2 0%256,N.getD 6 0%4096%256,N.getD 6 0%4096/256,N.getD 7 0%16,N.getD 8 0%256] a
theorem QAp{n:Int}:n/2 ^ (0:Int).toNat%2 ^ (8:Int).toNat=n%256:=by
 show n/1%256=n%256;rw[Int.ediv_one]
theorem QAq{n:Int}(h:0≤n∧n<4096):n/2 ^ (8:Int).toNat%2 ^ (4:Int).toNat=n/256:=by
 show n/256%16=n/256;omega
def Qph:PSpec:=⟨[gD,gi],fun(d,a,_)=>(some (0≤a∧a<4),.tup [.agg [.own 0,.imm (.slice none 0 0)],I1 (orF d.1 a)],[.arr (.int .i64) (Qah d.1)])⟩
theorem Qq8:G0 177 Qph.spec:=by
 have hP:S0 _:=Qa Qdx (Qa Qje (Qa QhW (Qb (T:=tree))));have hT:=tabs hP Qc;refine Qph.gd hT hP Tryz.func177 fun(d:Dv) (a:Int) hq=>?_
 have hp:0≤a∧a<4:=hq _ rfl;obtain⟨N,M⟩:=d;obtain⟨h0,h1,h2,h3,h4,h5⟩:=oR N;have ha:a=0∨a=1∨a=2∨a=3:=by omega
 rcases ha with rfl|rfl|rfl|rfl
 all_goals
  repeat' first|(apply Ea;conv=>whnf)|apply Eb|apply Ec<;>intro _|apply Ed<;>intro _|apply Ee<;>intro _|apply Ef hT hP
  all_goals first
   |exact of_decide_eq_true rfl
   |exact⟨of_decide_eq_true rfl,rfl⟩
   |(exfalso;rename_i h;exact absurd (show(6:Nat)=0 from h) (by decide))
   |(show 0≤N.getD 0 0%4096∧N.getD 0 0%4096<4611686018427387904∧_
     exact⟨by omega,by omega,by decide,by decide,by decide⟩)
   |(refine .k [] [2] _ rfl (Qcq ?_)
     first|exact QAp|exact QAq h0|exact rfl)
   |skip
def Qpi:PSpec:=⟨[gD,gi],fun(d,a,_)=>(some (4≤a∧a<8),.tup [.agg [.own 0,.imm (.slice none 0 0)],I1 (orF d.1 a)],[.arr (.int .i64) (Qah d.1)])⟩
theorem Qq9:G0 177 Qpi.spec:=by
 have hP:S0 _:=Qa Qdx (Qa Qjf (Qa QhW (Qb (T:=tree))));have hT:=tabs hP Qc;refine Qpi.gd hT hP Tryz.func177 fun(d:Dv) (a:Int) hq=>?_
 have hp:4≤a∧a<8:=hq _ rfl;obtain⟨N,M⟩:=d;obtain⟨h0,h1,h2,h3,h4,h5⟩:=oR N;have ha:a=4∨a=5∨a=6∨a=7:=by omega
 rcases ha with rfl|rfl|rfl|rfl
 all_goals
  repeat' first|(apply Ea;conv=>whnf)|apply Eb|apply Ec<;>intro _|apply Ed<;>intro _|apply Ee<;>intro _|apply Ef hT hP
  all_goals first
   |exact of_decide_eq_true rfl
   |exact⟨of_decide_eq_true rfl,rfl⟩
   |(exfalso;rename_i h;exact absurd (show(6:Nat)=0 from h) (by decide))
   |(show 0≤N.getD 6 0%4096∧N.getD 6 0%4096<4611686018427387904∧_
     exact⟨by omega,by omega,by decide,by decide,by decide⟩)
   |(refine .k [] [2] _ rfl (Qcq ?_)
     first|exact QAp|exact QAq h3|exact rfl)
   |skip
def Qpj:PSpec:=⟨[gD,gi],fun(d,a,_)=>(some (a<0∨a≥8),.tup [.agg [.own 0,.imm (.slice none 0 0)],I1 (orF d.1 a)],[.arr (.int .i64) (Qah d.1)])⟩
theorem Qra:G0 177 Qpj.spec:=by
 have hP:S0 _:=Qa Qdx (Qa Qjg (Qa QhW (Qb (T:=tree))));have hT:=tabs hP Qc;refine Qpj.gd hT hP Tryz.func177 fun(d:Dv) (a:Int) hq=>?_
 have hp:a<0∨a≥8:=hq _ rfl;obtain⟨N,M⟩:=d;obtain⟨h0,h1,h2,h3,h4,h5⟩:=oR N
 repeat' first|(apply Ea;conv=>whnf)|apply Eb|apply Ec<;>intro _|apply Ed<;>intro _|apply Ee<;>intro _|apply Ef hT hP
 all_goals first
  |exact hp
  |contradiction
  |(refine .k [] [2] _ rfl (Qcq ?_)
    exact(QhF fun i hi=>by
     have:i<8:=hi
     omega).symm)
  |skip
theorem QJK(a:Int)(h:¬(0≤a∧a<8)):a<0∨a≥8:=by omega
def QE4:PSpec:=⟨[gD,gi],fun(d,a,_)=>(none,.tup [.agg [.own 0,.imm (.slice none 0 0)],I1 (orF d.1 a)],[.arr (.int .i64) (Qah d.1)])⟩
def QCm:PSpec:=⟨[gD,gi],fun(d,a,_)=>(some (0≤a∧a<8),.tup [.agg [.own 0,.imm (.slice none 0 0)],I1 (orF d.1 a)],[.arr (.int .i64) (Qah d.1)])⟩
theorem QtV:G0 177 QCm.spec:=QQ.cases Qq8 Qq9 fun(d,a,_) hq=>by
 have hp:0≤a∧a<8:=hq _ rfl;rcases Int.lt_or_le a 4 with h|h
 ·exact .inl ⟨fun q hq=>by cases hq;exact⟨hp.1,h⟩,rfl⟩
 ·exact .inr ⟨fun q hq=>by cases hq;exact⟨h,hp.2⟩,rfl⟩
theorem QxP:G0 177 QE4.spec:=QQ.cases QtV Qra fun(d,a,_) _=>by
 by_cases h:0≤a∧a<8
 ·exact .inl ⟨fun q hq=>by cases hq;exact h,rfl⟩
 ·exact .inr ⟨fun q hq=>by cases hq;exact QJK a h,rfl⟩
def owF(N:List Int)(a k:Int):List Int :=
 if a=0 then (Qah N).set 0 (N.getD 0 0%4096/256*256+k%256) else if a=1 then (Qah N).set 0 (N.getD 0 0%4096%256+k%16*256) else if a=2 then ((Qah N).set 1 (k%16)).set 5 0 else if a=3 then (Qah N).set 2 (k%256)
 else if a=4 then (Qah N).set 6 (N.getD 6 0%4096/256*256+k%256) else if a=5 then (Qah N).set 6 (N.getD 6 0%4096%256+k%16*256) else if a=6 then ((Qah N).set 7 (k%16)).set 11 0 else if a=7 then (Qah N).set 8 (k%256) else Qah N
theorem QAr{n k:Int}(h:0≤n∧n<4096):2 ^ (0:Int).toNat*(2 ^ (8:Int).toNat*(n/2 ^ ((0:Int)+8).toNat)+k%2 ^ (8:Int).toNat)+n%2 ^ (0:Int).toNat=n/256*256+k%256:=by
 show 1*(256*(n/256)+k%256)+n%1=_;omega
theorem QAs{n k:Int}(h:0≤n∧n<4096):2 ^ (8:Int).toNat*(2 ^ (4:Int).toNat*(n/2 ^ ((8:Int)+4).toNat)+k%2 ^ (4:Int).toNat)+n%2 ^ (8:Int).toNat=n%256+k%16*256:=by
 show 256*(16*(n/4096)+k%16)+n%256=_;omega
theorem QgG{l:List Int}{i:Nat}{x y:Int}(h:x=y):l.set i x=l.set i y:=by rw[h]
def Ql1:PSpec:=⟨[gD,gi,gi],fun(d,a,k,_)=>(some (0≤a∧a<4),Qfb,[.arr (.int .i64) (owF d.1 a k)])⟩
theorem Qnr:G0 184 Ql1.spec:=by
 have hP:S0 _:=Qa Qdx (Qa Qje (Qa QhX (Qa QN (Qb (T:=tree)))));have hT:=tabs hP Qc;refine Ql1.gd hT hP Tryz.func184 fun(d:Dv) (a k:Int) hq=>?_
 have hp:0≤a∧a<4:=hq _ rfl;obtain⟨N,M⟩:=d;obtain⟨h0,h1,h2,h3,h4,h5⟩:=oR N;have ha:a=0∨a=1∨a=2∨a=3:=by omega
 rcases ha with rfl|rfl|rfl|rfl
 all_goals
  repeat' first|(apply Ea;conv=>whnf)|apply Eb|apply Ec<;>intro _|apply Ed<;>intro _|apply Ee<;>intro _|apply Ef hT hP
  all_goals first
   |exact of_decide_eq_true rfl
   |exact⟨of_decide_eq_true rfl,rfl⟩
   |(exfalso;rename_i h;exact absurd (show(6:Nat)=0 from h) (by decide))
   |(show 0≤N.getD 0 0%4096∧N.getD 0 0%4096<4611686018427387904∧_
     exact⟨by omega,by omega,by decide,by decide,by decide⟩)
   |exact .k [] [2] _ R R
   |(refine .mk [] [2] _ R R R R R (Ql ?_) rfl
     first|exact QgG (QAr h0)|exact QgG (QAs h0))
   |skip
def Ql2:PSpec:=⟨[gD,gi,gi],fun(d,a,k,_)=>(some (4≤a∧a<8),Qfb,[.arr (.int .i64) (owF d.1 a k)])⟩
theorem Qns:G0 184 Ql2.spec:=by
 have hP:S0 _:=Qa Qdx (Qa Qjf (Qa QhX (Qa QN (Qb (T:=tree)))));have hT:=tabs hP Qc;refine Ql2.gd hT hP Tryz.func184 fun(d:Dv) (a k:Int) hq=>?_
 have hp:4≤a∧a<8:=hq _ rfl;obtain⟨N,M⟩:=d;obtain⟨h0,h1,h2,h3,h4,h5⟩:=oR N;have ha:a=4∨a=5∨a=6∨a=7:=by omega
 rcases ha with rfl|rfl|rfl|rfl
 all_goals
  repeat' first|(apply Ea;conv=>whnf)|apply Eb|apply Ec<;>intro _|apply Ed<;>intro _|apply Ee<;>intro _|apply Ef hT hP
  all_goals first
   |exact of_decide_eq_true rfl
   |exact⟨of_decide_eq_true rfl,rfl⟩
   |(exfalso;rename_i h;exact absurd (show(6:Nat)=0 from h) (by decide))
   |(show 0≤N.getD 6 0%4096∧N.getD 6 0%4096<4611686018427387904∧_
     exact⟨by omega,by omega,by decide,by decide,by decide⟩)
   |exact .k [] [2] _ R R
   |(refine .mk [] [2] _ R R R R R (Ql ?_) rfl
     first|exact QgG (QAr h3)|exact QgG (QAs h3))
   |skip
def Ql3:PSpec:=⟨[gD,gi,gi],fun(d,a,k,_)=>(some (a<0∨a≥8),Qfb,[.arr (.int .i64) (owF d.1 a k)])⟩
theorem Qnt:G0 184 Ql3.spec:=by
 have hP:S0 _:=Qa Qdx (Qa Qjg (Qa QhX (Qa QN (Qb (T:=tree)))));have hT:=tabs hP Qc;refine Ql3.gd hT hP Tryz.func184 fun(d:Dv) (a k:Int) hq=>?_
 have hp:a<0∨a≥8:=hq _ rfl;obtain⟨N,M⟩:=d;obtain⟨h0,h1,h2,h3,h4,h5⟩:=oR N
 repeat' first|(apply Ea;conv=>whnf)|apply Eb|apply Ec<;>intro _|apply Ed<;>intro _|apply Ee<;>intro _|apply Ef hT hP
 all_goals first
  |exact hp
  |contradiction
  |(refine .mk [] [2] _ R R R R R (Ql (l:=Qah N) ?_) rfl
    show _=owF N a k;unfold owF
    rw[if_neg (by omega),if_neg (by omega),if_neg (by omega),if_neg (by omega),if_neg (by omega),if_neg (by omega),if_neg (by omega),if_neg (by omega)])
  |skip
def QCn:PSpec:=⟨[gD,gi,gi],fun(d,a,k,_)=>(none,Qfb,[.arr (.int .i64) (owF d.1 a k)])⟩
def QxQ:PSpec:=⟨[gD,gi,gi],fun(d,a,k,_)=>(some (0≤a∧a<8),Qfb,[.arr (.int .i64) (owF d.1 a k)])⟩
theorem Qrb:G0 184 QxQ.spec:=QQ.cases Qnr Qns fun(d,a,k,_) hq=>by
 have hp:0≤a∧a<8:=hq _ rfl;rcases Int.lt_or_le a 4 with h|h
 ·exact .inl ⟨fun q hq=>by cases hq;exact⟨hp.1,h⟩,rfl⟩
 ·exact .inr ⟨fun q hq=>by cases hq;exact⟨h,hp.2⟩,rfl⟩
theorem QtW:G0 184 QCn.spec:=QQ.cases Qrb Qnt fun(d,a,k,_) _=>by
 by_cases h:0≤a∧a<8
 ·exact .inl ⟨fun q hq=>by cases hq;exact h,rfl⟩
 ·exact .inr ⟨fun q hq=>by cases hq;exact QJK a h,rfl⟩
def omods:List Int:=[4096,16,256,4096,2,16384,4096,16,256,4096,2,16384]
theorem Qpk:omods.length≤1000∧∀m∈omods,0<m∧m≤4611686018427387904:=by decide
def Qpl:PSpec:=⟨[gC,gD],fun(c,d,_)=>(some (c.2.1=7),Qfb,[.arr (.int .i64) (Qah d.1)])⟩
theorem Qcf:G0 58 Qpl.spec:=by
 have hP:S0 _:=Qa QcO (Qb (T:=tree));have hT:=tabs hP Qc;refine Qpl.gd hT hP Tryz.func58 fun(c:Cv) (d:Dv) hp=>?_
 obtain⟨cn,ck,cb,cs,cd⟩:=c;obtain rfl:ck=7:=hp _ rfl;obtain⟨N,M⟩:=d
 repeat' first|(apply Ea;conv=>whnf)|apply Eb|apply Ec<;>intro _|apply Ed<;>intro _|apply Ee<;>intro _|apply Ef hT hP
 all_goals first
  |exact rfl
  |exact Qpk
  |exact of_decide_eq_true rfl
  |skip
 exact .k [] [5] _ R R
theorem tm{n m:Int}(h:0≤n):Int.tmod n m=n%m:=Int.tmod_eq_emod_of_nonneg h
theorem QCo{n:Int}(h:0≤n∧n<4096):i64.wrap (Int.tdiv n 256)=n/256:=by rw[Int.tdiv_eq_ediv_of_nonneg h.1,w64 (by omega) (by omega)]
def Qpm:PSpec:=⟨[gC,gD,gi],fun(c,d,a,_)=>(some (c.2.1=7),.tup [.agg [.own 0,.imm (.slice none 0 0)],I1 (orF d.1 a)],[.arr (.int .i64) (Qah d.1)])⟩
theorem Qrc:G0 76 Qpm.spec:=by
 have hP:S0 _:=Qa Qcf (Qa Qgg (Qb (T:=tree)));have hT:=tabs hP Qc;refine Qpm.gd hT hP Tryz.func76 fun(c:Cv) (d:Dv) (a:Int) hp=>?_
 obtain⟨cn,ck,cb,cs,cd⟩:=c;obtain rfl:ck=7:=hp _ rfl;obtain⟨N,M⟩:=d;obtain⟨h0,h1,h2,h3,h4,h5⟩:=oR N
 repeat' first|(apply Ea;conv=>whnf)|apply Eb|apply Ec<;>intro _|apply Ed<;>intro _|apply Ee<;>intro _|apply Ef hT hP
 all_goals first
  |exact rfl
  |exact Qpk
  |exact of_decide_eq_true rfl
  |skip
 refine .k [] [4] _ rfl (Qcq ?_);show QbU [Int.tmod (N.getD 0 0%4096) 256,i64.wrap (Int.tdiv (N.getD 0 0%4096) 256),N.getD 1 0%16,N.getD 2 0%256,Int.tmod (N.getD 6 0%4096) 256,i64.wrap (Int.tdiv (N.getD 6 0%4096) 256),N.getD 7 0%16,N.getD 8 0%256] a=orF N a;rw[tm h0.1,tm h3.1,QCo h0,QCo h3];rfl
theorem QE5{n k:Int}(h:0≤n∧n<4096):i64.wrap (i64.wrap (i64.wrap (Int.tdiv n 256)*256)+k%256)=n/256*256+k%256:=by
 rw[QCo h,w64 (x:=n/256*256) (by omega) (by omega),w64 (by omega) (by omega)]
theorem QJL{k:Int}:Int.tmod (k%256) 16=k%16:=by rw[tm (by omega)];omega
theorem QE6{n k:Int}(h:0≤n∧n<4096):i64.wrap (Int.tmod n 256+i64.wrap (Int.tmod (k%256) 16*256))=n%256+k%16*256:=by
 rw[tm h.1,QJL,w64 (x:=k%16*256) (by omega) (by omega),w64 (by omega) (by omega)]
theorem QCp{l:List Int}{i j:Nat}{x y z:Int}(h:x=y):(l.set i x).set j z=(l.set i y).set j z:=by rw[h]
def Qpn:PSpec:=⟨[gC,gD,gi,gi],fun(c,d,a,k,_)=>(some (c.2.1=7),Qfb,[.arr (.int .i64) (owF d.1 a k)])⟩
theorem Qrd:G0 77 Qpn.spec:=by
 have hP:S0 _:=Qa Qcf (Qa Qco (Qb (T:=tree)));have hT:=tabs hP Qc;refine Qpn.gd hT hP Tryz.func77 fun(c:Cv) (d:Dv) (a k:Int) hp=>?_
 obtain⟨cn,ck,cb,cs,cd⟩:=c;obtain rfl:ck=7:=hp _ rfl;obtain⟨N,M⟩:=d;obtain⟨h0,h1,h2,h3,h4,h5⟩:=oR N;have ha:a=0∨a=1∨a=2∨a=3∨a=4∨a=5∨a=6∨a=7∨a<0∨a≥8:=by omega
 rcases ha with rfl|rfl|rfl|rfl|rfl|rfl|rfl|rfl|ha|ha
 all_goals
  repeat' first|(apply Ea;conv=>whnf)|apply Eb|apply Ec<;>intro _|apply Ed<;>intro _|apply Ee<;>intro _|apply Ef hT hP
  all_goals first
   |exact rfl
   |exact of_decide_eq_true rfl
   |(exfalso;omega)
   |exact .k [] [3] _ R R
   |(refine .mk [] [3] _ R R R R R (Ql ?_) rfl
     first|exact QgG (QE5 h0)|exact QgG (QE5 h3)|exact QgG (QE6 h0)|exact QgG (QE6 h3)|exact QCp QJL)
   |(refine .mk [] [3] _ R R R R R (Ql (l:=Qah N) ?_) rfl
     show _=owF N a k;unfold owF
     rw[if_neg (by omega),if_neg (by omega),if_neg (by omega),if_neg (by omega),if_neg (by omega),if_neg (by omega),if_neg (by omega),if_neg (by omega)])
   |skip
def QtX:PSpec:=⟨[gC,gD],fun(c,d,_)=>(some (c.2.1=7),I (QiL d.1),[])⟩
theorem QtY:G0 72 QtX.spec:=by
 have hP:S0 _:=Qa Qcf (Qb (T:=tree));have hT:=tabs hP Qc;refine QtX.gd hT hP Tryz.func72 fun(c:Cv) (d:Dv) hp=>?_
 obtain⟨cn,ck,cb,cs,cd⟩:=c;obtain rfl:ck=7:=hp _ rfl;obtain⟨N,M⟩:=d
 repeat' first|(apply Ea;conv=>whnf)|apply Eb|apply Ec<;>intro _|apply Ed<;>intro _|apply Ee<;>intro _|apply Ef hT hP
 all_goals first
  |exact rfl
  |exact of_decide_eq_true rfl
  |(refine .k [] [] _ rfl (Qd ?_)
    show i64.wrap (i64.wrap (N.getD 4 0%2*(N.getD 1 0%16))+i64.wrap (N.getD 10 0%2*(N.getD 7 0%16)))=QiL N;rw[Int.mul_comm (N.getD 4 0%2),Int.mul_comm (N.getD 10 0%2)]
    exact Ql0 N)
  |skip
theorem QE7{x y z:Blk}{l l':List Int}(h:l=l'):[some x,some y,some (Blk.arr (.int .i64) l),some z]=[some x,some y,some (Blk.arr (.int .i64) l'),some z]:=by rw[h]
def Qpo:PSpec:=⟨[gC,gD],fun(c,d,_)=>(some (c.2.1=7),Qfb,[.arr (.int .i64) (QaO (Qah d.1))])⟩
theorem Qre:G0 79 Qpo.spec:=by
 have hP:S0 _:=Qa Qcf (Qb (T:=tree));have hT:=tabs hP Qc;refine Qpo.gd hT hP Tryz.func79 fun(c:Cv) (d:Dv) hp=>?_
 obtain⟨cn,ck,cb,cs,cd⟩:=c;obtain rfl:ck=7:=hp _ rfl;obtain⟨N,M⟩:=d
 repeat' first|(apply Ea;conv=>whnf)|apply Eb|apply Ec<;>intro _|apply Ed<;>intro _|apply Ee<;>intro _|apply Ef hT hP
 all_goals first
  |exact rfl
  |exact of_decide_eq_true rfl
  |skip
 refine Qai hT hP (X:=Int×List Int) (fun(i,l)=>St.mk (E3 ((.cell (.ptr 0 0))::(.cell (.ptr 1 0))::E40 (E40 (E20 (E5 (E1 ((.cell (.svar 3 0 2))::(I 2)::(I i)::E40 (E20 (E10 []))))))))) [some (.var [.own 2,.imm (.slice none 0 0)]),some (.var [.imm (.slice none 0 0),.imm (.slice none 0 0)]),some (.arr (.int .i64) l),some (.var [.sub 2 0 6,.sub 2 6 6])])
  (fun(i,l)=>(i=0∧l=vo N 0++vo N 6)∨(i=1∧l=Qx 1 (vo N 0)++vo N 6)∨(i=2∧l=Qx 1 (vo N 0)++Qx 1 (vo N 6))) (fun(i,_)=>(2-i).toNat) (0,Qah N) (Le.k [] [1,2,3,4] ?_) ?_ fun(i,l) hi=>?_
 ·repeat' constructor
 ·exact .inl ⟨rfl,rfl⟩
 rcases hi with⟨rfl,hl⟩|⟨rfl,hl⟩|⟨rfl,hl⟩
 ·obtain⟨A,hA⟩:∃A,A=vo N 0:=⟨_,rfl⟩
  obtain⟨B,hB⟩:∃B,B=vo N 6:=⟨_,rfl⟩
  have oA:vOk A:=by rw[hA];exact Qaf N 0
  have oB:vOk B:=by rw[hB];exact Qaf N 6
  rw[←hA,←hB] at hl;subst hl;obtain⟨G,hG⟩:∃G,G=Qx 1 A++B:=⟨_,rfl⟩
  have hI:∀z:Int×List Int,z.1=1→z.2=G→(z.1=0∧z.2=vo N 0++vo N 6)∨(z.1=1∧z.2=Qx 1 (vo N 0)++vo N 6)∨(z.1=2∧z.2=Qx 1 (vo N 0)++Qx 1 (vo N 6)):=by
   intro z h1 h2;rw[h1,h2,hG,hA,hB];exact .inr (.inl ⟨rfl,rfl⟩)
  clear hA hB;cases oA with
  |mk hp hv hr hc hf hw =>
  cases oB with
  |mk hp' hv' hr' hc' hf' hw' =>
  rename_i p v r c f w p' v' r' c' f' w'
  repeat' first|(apply Ea;conv=>whnf)|apply Eb|apply Ec<;>intro _|apply Ed<;>intro _|apply Ee<;>intro _|apply Ef hT hP
  all_goals first
   |exact of_decide_eq_true rfl
   |(exfalso;rename_i h;revert h;decide)
   |skip
  all_goals
   apply Exists.intro (_,G);refine And.intro ?_ (And.intro ?_ (Le.mk [] [0,1,2,3] R R (QE7 ?_) ?ht))
   case ht=>repeat' constructor
  all_goals first
   |exact hI (i64.wrap (0+1),G) R R
   |(show(2-i64.wrap (0+1)).toNat<(2-(0:Int)).toNat
     decide)
   |(rw[hG]
     have ew1:i64.wrap (c+1)=c+1:=w64 (by omega) (by omega);have ew2:i64.wrap (1-f)=1-f:=w64 (by omega) (by omega);have ew3:i64.wrap (w+1)=w+1:=w64 (by omega) (by omega);have ew4:i64.wrap (64*r)=r*64:=by rw[w64 (by omega) (by omega),Int.mul_comm]
     have ew5:i64.wrap (v-1)=v-1:=w64 (by omega) (by omega);clear hT hP hp hI hG;simp[ew1,ew2,ew3,ew4,ew5] at *
     try simp[Qx, *]
     (repeat' first|refine And.intro ?_ ?_|intro _)
     all_goals first|omega|(exfalso;omega))
   |skip
 ·obtain⟨A,hA⟩:∃A,A=Qx 1 (vo N 0):=⟨_,rfl⟩
  obtain⟨B,hB⟩:∃B,B=vo N 6:=⟨_,rfl⟩
  have oA:vOk A:=by rw[hA];exact QbO (Qaf N 0) (by decide)
  have oB:vOk B:=by rw[hB];exact Qaf N 6
  rw[←hA,←hB] at hl;subst hl;obtain⟨G,hG⟩:∃G,G=A++Qx 1 B:=⟨_,rfl⟩
  have hI:∀z:Int×List Int,z.1=2→z.2=G→(z.1=0∧z.2=vo N 0++vo N 6)∨(z.1=1∧z.2=Qx 1 (vo N 0)++vo N 6)∨(z.1=2∧z.2=Qx 1 (vo N 0)++Qx 1 (vo N 6)):=by
   intro z h1 h2;rw[h1,h2,hG,hA,hB];exact .inr (.inr ⟨rfl,rfl⟩)
  clear hA hB;cases oA with
  |mk hp hv hr hc hf hw =>
  cases oB with
  |mk hp' hv' hr' hc' hf' hw' =>
  rename_i p' v' r' c' f' w' p v r c f w
  repeat' first|(apply Ea;conv=>whnf)|apply Eb|apply Ec<;>intro _|apply Ed<;>intro _|apply Ee<;>intro _|apply Ef hT hP
  all_goals first
   |exact of_decide_eq_true rfl
   |(exfalso;rename_i h;revert h;decide)
   |skip
  all_goals
   apply Exists.intro (_,G);refine And.intro ?_ (And.intro ?_ (Le.mk [] [0,1,2,3] R R (QE7 ?_) ?ht))
   case ht=>repeat' constructor
  all_goals first
   |exact hI (i64.wrap (1+1),G) R R
   |(show(2-i64.wrap (1+1)).toNat<(2-(1:Int)).toNat
     decide)
   |(rw[hG]
     have ew1:i64.wrap (c+1)=c+1:=w64 (by omega) (by omega);have ew2:i64.wrap (1-f)=1-f:=w64 (by omega) (by omega);have ew3:i64.wrap (w+1)=w+1:=w64 (by omega) (by omega);have ew4:i64.wrap (64*r)=r*64:=by rw[w64 (by omega) (by omega),Int.mul_comm]
     have ew5:i64.wrap (v-1)=v-1:=w64 (by omega) (by omega);clear hT hP hp hI hG;simp[ew1,ew2,ew3,ew4,ew5] at *
     try simp[Qx, *]
     (repeat' first|refine And.intro ?_ ?_|intro _)
     all_goals first|omega|(exfalso;omega))
   |skip
 ·subst hl
  repeat' first|(apply Ea;conv=>whnf)|apply Eb|apply Ec<;>intro _|apply Ed<;>intro _|apply Ee<;>intro _|apply Ef hT hP
  all_goals first
   |exact of_decide_eq_true rfl
   |(exfalso;rename_i h;revert h;decide)
   |(refine .mk [] [2] _ R R R R R (Ql ?_) rfl
     show Qx 1 (vo N 0)++Qx 1 (vo N 6)=QaO (vo N 0++vo N 6)
     rw[Qh0 rfl])
   |skip
end Go.Proofs.YtofgbclopbmlcaaGreat

