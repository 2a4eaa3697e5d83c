/- Part 11 of the proof. Conditions: none. -/
import Derived.Test.YtofgbclopbmlcaaGreatG10
namespace Go.Proofs.YtofgbclopbmlcaaGreat
open Go.IntKind (i64)
set_option maxHeartbeats 4000000
open Go.Fw
set_option linter.unusedVariables false
set_option linter.unusedSimpArgs false
set_option maxRecDepth 100000
def QGa:PSpec:=⟨[gD],fun(d,_)=>(none,.cell (.own 0),[.arr (.int .i64) (Qao d.1)])⟩
theorem QdE:G0 225 QGa.spec:=by
 have e:S0 _:=Qa QU (Qb (T:=tree));have g:=tabs e Qc;refine QGa.gd g e Tryz.func225 fun(d:Dv) _=>?_
 obtain⟨N,M⟩:=d
 repeat' first|(apply Ea;conv=>whnf)|apply Eb|apply Ec|apply Ed|apply Ee|(apply Ei;intro _)|refine QP 7 ?_|apply Eg g e
 all_goals first
  |exact Ya rfl
  |exact .k [] [1] _ R R
def QGb:PSpec:=⟨[],fun _=>(none,Qff,[.arr (.int .i64) (List.replicate 12 0)])⟩
theorem QDc:G0 114 QGb.spec:=by
 have e:S0 _:=(Qb (T:=tree))
 have g:=tabs e Qc;refine QGb.gd g e Tryz.func114 fun _=>?_
 repeat' first|(apply Ea;conv=>whnf)|apply Eb|apply Ec|apply Ed|apply Ee|(apply Ei;intro _)|apply Ef g e|apply Eg g e
 all_goals first
  |exact Ya rfl
  |exact .k [] [1] _ R R
def QA8:PSpec:=⟨[gl],fun(l,_)=>(some (vOk l),I (Qi l),[])⟩
theorem Qpu:G0 226 QA8.spec:=by
 have e:S0 _:=(Qb (T:=tree))
 have g:=tabs e Qc;refine QA8.gd g e Tryz.func226 fun(l:List Int) i=>?_
 have j:vOk l:=i _ rfl;cases j with
 |mk j hv hr hc hf hw =>
 rename_i p v r c f w;have e1:Qi [p,v,r,c,f,w]=min (if p>0 then max 1 (p-c)-1 else 100000) (if r>0∧v>0 then max 1 (r*64-w)-1 else 100000):=rfl
 repeat' first|(apply Ea;conv=>whnf)|apply Eb|apply Ec|apply Ed|apply Ee|(apply Ei;intro _)|apply Ef g e|apply Eg g e
 all_goals first
  |exact Ya rfl
  |skip
 all_goals
  refine .k [] [] _ rfl (Qd ?_);show _=Qi [p,v,r,c,f,w];rw[e1];have ew1:i64.wrap (p-c)=p-c:=w64 (by omega) (by omega);have ew2:i64.wrap (r*64)=r*64:=w64 (by omega) (by omega);have ew3:i64.wrap (r*64-w)=r*64-w:=w64 (by omega) (by omega);have ew4:i64.wrap (max 1 (p-c)-1)=max 1 (p-c)-1:=w64 (by omega) (by omega);have ew5:i64.wrap (max 1 (r*64-w)-1)=max 1 (r*64-w)-1:=w64 (by omega) (by omega);clear g e i;simp[ew1,ew2,ew3,ew4,ew5,Q8,QS] at *
  first|omega|(simp[*];done)|(simp[*];omega)
def QDd:WSpec:=⟨Nat×List Int×Int,fun x=>[.c (.sub 0 x.1 6),.c (iv .i64 x.2.2)],fun x=>[.arr (.int .i64) x.2.1],
 fun a b=>(match a,b with| [.c (.sub 0 off 6),.c (.imm (.int .i64 k))],[.arr (.int .i64) l]=>some (off,l,k)|_,_=>none),
 fun x=>(some ((x.1=0∨x.1=6)∧(∃a b,x.2.1=a++b∧vOk a∧vOk b)∧0≤x.2.2∧x.2.2≤10000000),.tup [],[some (.arr (.int .i64) (Qb7 x.1 x.2.1 x.2.2))],[])⟩
theorem QDe:G0 229 QDd.spec:=by
 have e:S0 _:=(Qb (T:=tree))
 have g:=tabs e Qc;refine QDd.gd g e Tryz.func229 ?_ fun((off,l,k):Nat×List Int×Int) i=>?_
 ·intro a b x h;simp only[QDd] at h;split at h
  ·injection h with h;subst h;exact⟨rfl,rfl⟩
  ·cases h
 obtain⟨ho,⟨a,b,hl,ha,hb⟩,hk0,hk1⟩:(off=0∨off=6)∧(∃a b,l=a++b∧vOk a∧vOk b)∧0≤k∧k≤10000000:=i _ rfl;rcases ho with rfl|rfl
 ·cases ha with
  |mk j hv hr hc hf hw =>
  cases hb with
  |mk s n q u t m =>
  obtain rfl:=hl;rename_i p v r c f w p' v' r' c' f' w'
  repeat' first|(apply Ea;conv=>whnf)|apply Eb|apply Ec|apply Ed|apply Ee|(apply Ei;intro _)|apply Ef g e|apply Eg g e
  all_goals first
   |exact Ya rfl
   |skip
  all_goals
   refine .mk [] [0] _ R R R R R (Ql ?_) rfl;have ew1:i64.wrap (c+k)=c+k:=w64 (by omega) (by omega);have ew2:i64.wrap (1-f)=1-f:=w64 (by omega) (by omega);have ew3:i64.wrap (w+k)=w+k:=w64 (by omega) (by omega);have ew4:i64.wrap (r*64)=r*64:=w64 (by omega) (by omega);have ew5:i64.wrap (v-1)=v-1:=w64 (by omega) (by omega);clear g e i;simp[ew1,ew2,ew3,ew4,ew5] at *
   try simp[Qb7,Qy, *]
  all_goals(repeat' first|refine Yo ?_ ?_|intro _)
  all_goals first|omega|(exfalso;omega)
 ·cases ha with
  |mk j hv hr hc hf hw =>
  cases hb with
  |mk s n q u t m =>
  obtain rfl:=hl;rename_i p' v' r' c' f' w' p v r c f w
  repeat' first|(apply Ea;conv=>whnf)|apply Eb|apply Ec|apply Ed|apply Ee|(apply Ei;intro _)|apply Ef g e|apply Eg g e
  all_goals first
   |exact Ya rfl
   |skip
  all_goals
   refine .mk [] [0] _ R R R R R (Ql ?_) rfl;have ew1:i64.wrap (c+k)=c+k:=w64 (by omega) (by omega);have ew2:i64.wrap (1-f)=1-f:=w64 (by omega) (by omega);have ew3:i64.wrap (w+k)=w+k:=w64 (by omega) (by omega);have ew4:i64.wrap (r*64)=r*64:=w64 (by omega) (by omega);have ew5:i64.wrap (v-1)=v-1:=w64 (by omega) (by omega);clear g e i;simp[ew1,ew2,ew3,ew4,ew5] at *
   try simp[Qb7,Qy, *]
  all_goals(repeat' first|refine Yo ?_ ?_|intro _)
  all_goals first|omega|(exfalso;omega)
def QA9:PSpec:=⟨[gD,gi],fun(d,k,_)=>(some (k≤10000000),Qff,[.arr (.int .i64) (Qr QaP k.toNat (Qao d.1))])⟩
theorem Qyc:G0 161 QA9.spec:=by
 have m:S0 _:=Qa QdE (Qa Qpu (Qa QDe (Qb (T:=tree))));have n:=tabs m Qc;refine QA9.gd n m Tryz.func161 fun(d:Dv) (k:Int) hp=>?_
 obtain⟨N,M⟩:=d;have hk:k≤10000000:=hp _ rfl;have eK:imin k 10000000=k:=by rw[QS];omega
 obtain⟨A,p⟩:∃A,A=Qr (Qy 1) (imin k 10000000).toNat (vo N 0):=⟨_,rfl⟩
 have g:vOk A:=by rw[p];exact QfJ (Qaq N 0) _
 repeat' first|(apply Ea;conv=>whnf)|apply Eb|apply Ec|apply Ed|apply Ee|(apply Ei;intro _)|apply Ef n m|apply Eg n m
 refine QP 3 ?_
 repeat' first|(apply Ea;conv=>whnf)|apply Eb|apply Ec|apply Ed|apply Ee|(apply Ei;intro _)|apply Ef n m|apply Eg n m
 all_goals first
  |exact Ya rfl
  |skip
 refine Q4 n m (X:=Int×List Int) (fun(r,a)=>St.mk (E1 ((I (imin k 10000000))::E2 ((.cell (.ptr 0 0))::(.cell (.own 1))::E1 ((.cell (.sub 1 0 6))::(I r)::E5 ((I 0)::E20 (E10 (E5 []))))))) [some (.var [.imm (.slice none 0 0),.imm (.slice none 0 0)]),some (.arr (.int .i64) (a++vo N 6))])
  (fun(r,a)=>r≤imin k 10000000∧vOk a∧Qr (Qy 1) r.toNat a=Qr (Qy 1) (imin k 10000000).toNat (vo N 0)) (fun(r,_)=>r.toNat) (imin k 10000000,vo N 0) (Le.mk [] [1,2] R R ?_ ?_) ?_ fun(r,a) u=>?_
 rotate_right
 repeat' first|(apply Ea;conv=>whnf)|apply Eb|apply Ec|apply Ed|apply Ee|(apply Ei;intro _)|apply Ef n m|apply Eg n m
 rotate_right 3
 ·exact rfl
 ·repeat' constructor
 ·exact⟨Int.le_refl _,Qaq N 0,rfl⟩
 all_goals
  obtain⟨s,e,c⟩:=u;have j:r≤10000000:=by rw[eK] at s;omega
  have t:=Qeb e;have e6:(((a++vo N 6).drop 0).take 6)=a:=QNM e.len;have ep:∀q,Qb7 0 (a++vo N 6) q=Qy q a++vo N 6:=fun q=>Quh e.len q
  have el:(a++vo N 6).length=12:=by rw[Ym,e.len];rfl
  have ew:i64.wrap (Qi a+1)=Qi a+1:=w64 (by omega) (by omega);have ew2:r>0→i64.wrap (r-(Qi a+1))=r-(Qi a+1):=fun h=>w64 (by omega) (by omega)
 all_goals first
  |exact Ya rfl
  |(show vOk (((a++vo N 6).drop 0).take 6)
    rw[e6];exact e)
  |skip
 ·rename_i b f;have b:r>0:=b;exact⟨.inl rfl,⟨a,vo N 6,rfl,e,Qaq N 6⟩,(by omega:0≤r),j⟩
 ·show(0:Int)≤6∧(6:Int)≤12∧(12:Int)≤((Qb7 0 (a++vo N 6) r).length:Nat);rw[ep,Ym,Qma,e.len,show(vo N 6).length=6 from rfl];decide
 ·rename_i b f;have b:r>0:=b;have ee:Qb7 0 (a++vo N 6) r=A++vo N 6:=by rw[ep,Qb2 e b (.inl (by have f:Qi (((a++vo N 6).drop 0).take 6)≥r:=f;rw[e6] at f;exact f)),c,p]
  refine Q4 n m (X:=Int×List Int) (fun(r,a)=>St.mk (E1 ((I (imin k 10000000))::E2 ((.cell (.ptr 0 0))::(.cell (.own 1))::E1 ((.cell (.sub 1 6 6))::(I r)::E5 ((I (i64.wrap (0+1)))::E20 (E10 (E5 []))))))) [some (.var [.imm (.slice none 0 0),.imm (.slice none 0 0)]),some (.arr (.int .i64) (A++a))])
   (fun(r,a)=>r≤imin k 10000000∧vOk a∧Qr (Qy 1) r.toNat a=Qr (Qy 1) (imin k 10000000).toNat (vo N 6)) (fun(r,_)=>r.toNat) (imin k 10000000,vo N 6) (Le.mk [] [0,1] R R ?_ ?_) ?_ fun(r,a) u=>?_
  rotate_right
  repeat' first|(apply Ea;conv=>whnf)|apply Eb|apply Ec|apply Ed|apply Ee|(apply Ei;intro _)|apply Ef n m|apply Eg n m
  rotate_right 3
  ·exact QnD ee
  ·repeat' constructor
  ·exact⟨Int.le_refl _,Qaq N 6,rfl⟩
  all_goals
   obtain⟨s,e,c⟩:=u;have j:r≤10000000:=by rw[eK] at s;omega
   have t:=Qeb e;have e6:(((A++a).drop 6).take 6)=a:=QKw g.len e.len;have ep:∀q,Qb7 6 (A++a) q=A++Qy q a:=fun q=>Qie g.len e.len q
   have el:(A++a).length=12:=by rw[Ym,g.len,e.len]
   have ew:i64.wrap (Qi a+1)=Qi a+1:=w64 (by omega) (by omega);have ew2:r>0→i64.wrap (r-(Qi a+1))=r-(Qi a+1):=fun h=>w64 (by omega) (by omega)
  all_goals first
   |exact Ya rfl
   |(show vOk (((A++a).drop 6).take 6)
     rw[e6];exact e)
   |skip
  ·rename_i b f;have b:r>0:=b;exact⟨.inr rfl,⟨A,a,rfl,g,e⟩,(by omega:0≤r),j⟩
  ·rename_i b f;have b:r>0:=b;refine .mk [] [1] _ R R R R R (Ql (l:=Qb7 6 (A++a) r) ?_) rfl;show _=Qr QaP k.toNat (Qao N);rw[ep,Qb2 e b (.inl (by have f:Qi (((A++a).drop 6).take 6)≥r:=f;rw[e6] at f;exact f)),c,Qao,Qig (Qaq N 0) (Qaq N 6),p,eK]
  ·rename_i b f i;have b:r>0:=b;exact⟨.inr rfl,⟨A,a,rfl,g,e⟩,(by omega:0≤r),j⟩
  ·rename_i b f i;have b:r>0:=b;refine .mk [] [1] _ R R R R R (Ql (l:=Qb7 6 (A++a) r) ?_) rfl;show _=Qr QaP k.toNat (Qao N);rw[ep,Qb2 e b (.inr (by have i:Qi (((A++a).drop 6).take 6)=100000:=i;rw[e6] at i;exact i)),c,Qao,Qig (Qaq N 0) (Qaq N 6),p,eK]
  ·rename_i b f i;have b:r>0:=b;exact⟨.inr rfl,⟨A,a,rfl,g,e⟩,(by rw[e6,ew];omega:0≤i64.wrap (Qi (((A++a).drop 6).take 6)+1)),(by rw[e6,ew];omega:i64.wrap (Qi (((A++a).drop 6).take 6)+1)≤10000000)⟩
  ·rename_i b f i;have b:r>0:=b;have f:¬Qi (((A++a).drop 6).take 6)≥r:=f;rw[e6] at f;have er:i64.wrap (r-i64.wrap (Qi (((A++a).drop 6).take 6)+1))=r-(Qi a+1):=by rw[e6,ew,ew2 b]
   have eb:Qb7 6 (A++a) (i64.wrap (Qi (((A++a).drop 6).take 6)+1))=A++Qy (Qi a+1) a:=by rw[e6,ew,ep]
   apply Yw (_,Qy (Qi a+1) a);refine Yo ?_ (Yo ?_ (Le.mk [] [0,1] R R (QnD eb) ?ht))
   case ht=>repeat' constructor
   ·show i64.wrap (r-i64.wrap (Qi (((A++a).drop 6).take 6)+1))≤imin k 10000000∧vOk (Qy (Qi a+1) a)∧Qr (Qy 1) (i64.wrap (r-i64.wrap (Qi (((A++a).drop 6).take 6)+1))).toNat (Qy (Qi a+1) a)=_;rw[er,Qet e (by omega)];exact⟨by omega,QbU e (by omega),c⟩
   ·show(i64.wrap (r-i64.wrap (Qi (((A++a).drop 6).take 6)+1))).toNat<r.toNat;rw[er];omega
  ·rename_i b;have b:¬r>0:=b;refine .mk [] [1] _ R R R R R (Ql (l:=A++a) ?_) rfl;show _=Qr QaP k.toNat (Qao N);have e0:r.toNat=0:=by omega
   rw[e0] at c;have c:a=_:=c;rw[c,Qao,Qig (Qaq N 0) (Qaq N 6),p,eK]
 ·rename_i b f i;have b:r>0:=b;exact⟨.inl rfl,⟨a,vo N 6,rfl,e,Qaq N 6⟩,(by omega:0≤r),j⟩
 ·show(0:Int)≤6∧(6:Int)≤12∧(12:Int)≤((Qb7 0 (a++vo N 6) r).length:Nat);rw[ep,Ym,Qma,e.len,show(vo N 6).length=6 from rfl];decide
 ·rename_i b f i;have b:r>0:=b;have ee:Qb7 0 (a++vo N 6) r=A++vo N 6:=by rw[ep,Qb2 e b (.inr (by have i:Qi (((a++vo N 6).drop 0).take 6)=100000:=i;rw[e6] at i;exact i)),c,p]
  refine Q4 n m (X:=Int×List Int) (fun(r,a)=>St.mk (E1 ((I (imin k 10000000))::E2 ((.cell (.ptr 0 0))::(.cell (.own 1))::E1 ((.cell (.sub 1 6 6))::(I r)::E5 ((I (i64.wrap (0+1)))::E20 (E10 (E5 []))))))) [some (.var [.imm (.slice none 0 0),.imm (.slice none 0 0)]),some (.arr (.int .i64) (A++a))])
   (fun(r,a)=>r≤imin k 10000000∧vOk a∧Qr (Qy 1) r.toNat a=Qr (Qy 1) (imin k 10000000).toNat (vo N 6)) (fun(r,_)=>r.toNat) (imin k 10000000,vo N 6) (Le.mk [] [0,1] R R ?_ ?_) ?_ fun(r,a) u=>?_
  rotate_right
  repeat' first|(apply Ea;conv=>whnf)|apply Eb|apply Ec|apply Ed|apply Ee|(apply Ei;intro _)|apply Ef n m|apply Eg n m
  rotate_right 3
  ·exact QnD ee
  ·repeat' constructor
  ·exact⟨Int.le_refl _,Qaq N 6,rfl⟩
  all_goals
   obtain⟨s,e,c⟩:=u;have j:r≤10000000:=by rw[eK] at s;omega
   have t:=Qeb e;have e6:(((A++a).drop 6).take 6)=a:=QKw g.len e.len;have ep:∀q,Qb7 6 (A++a) q=A++Qy q a:=fun q=>Qie g.len e.len q
   have el:(A++a).length=12:=by rw[Ym,g.len,e.len]
   have ew:i64.wrap (Qi a+1)=Qi a+1:=w64 (by omega) (by omega);have ew2:r>0→i64.wrap (r-(Qi a+1))=r-(Qi a+1):=fun h=>w64 (by omega) (by omega)
  all_goals first
   |exact Ya rfl
   |(show vOk (((A++a).drop 6).take 6)
     rw[e6];exact e)
   |skip
  ·rename_i b f;have b:r>0:=b;exact⟨.inr rfl,⟨A,a,rfl,g,e⟩,(by omega:0≤r),j⟩
  ·rename_i b f;have b:r>0:=b;refine .mk [] [1] _ R R R R R (Ql (l:=Qb7 6 (A++a) r) ?_) rfl;show _=Qr QaP k.toNat (Qao N);rw[ep,Qb2 e b (.inl (by have f:Qi (((A++a).drop 6).take 6)≥r:=f;rw[e6] at f;exact f)),c,Qao,Qig (Qaq N 0) (Qaq N 6),p,eK]
  ·rename_i b f i;have b:r>0:=b;exact⟨.inr rfl,⟨A,a,rfl,g,e⟩,(by omega:0≤r),j⟩
  ·rename_i b f i;have b:r>0:=b;refine .mk [] [1] _ R R R R R (Ql (l:=Qb7 6 (A++a) r) ?_) rfl;show _=Qr QaP k.toNat (Qao N);rw[ep,Qb2 e b (.inr (by have i:Qi (((A++a).drop 6).take 6)=100000:=i;rw[e6] at i;exact i)),c,Qao,Qig (Qaq N 0) (Qaq N 6),p,eK]
  ·rename_i b f i;have b:r>0:=b;exact⟨.inr rfl,⟨A,a,rfl,g,e⟩,(by rw[e6,ew];omega:0≤i64.wrap (Qi (((A++a).drop 6).take 6)+1)),(by rw[e6,ew];omega:i64.wrap (Qi (((A++a).drop 6).take 6)+1)≤10000000)⟩
  ·rename_i b f i;have b:r>0:=b;have f:¬Qi (((A++a).drop 6).take 6)≥r:=f;rw[e6] at f;have er:i64.wrap (r-i64.wrap (Qi (((A++a).drop 6).take 6)+1))=r-(Qi a+1):=by rw[e6,ew,ew2 b]
   have eb:Qb7 6 (A++a) (i64.wrap (Qi (((A++a).drop 6).take 6)+1))=A++Qy (Qi a+1) a:=by rw[e6,ew,ep]
   apply Yw (_,Qy (Qi a+1) a);refine Yo ?_ (Yo ?_ (Le.mk [] [0,1] R R (QnD eb) ?ht))
   case ht=>repeat' constructor
   ·show i64.wrap (r-i64.wrap (Qi (((A++a).drop 6).take 6)+1))≤imin k 10000000∧vOk (Qy (Qi a+1) a)∧Qr (Qy 1) (i64.wrap (r-i64.wrap (Qi (((A++a).drop 6).take 6)+1))).toNat (Qy (Qi a+1) a)=_;rw[er,Qet e (by omega)];exact⟨by omega,QbU e (by omega),c⟩
   ·show(i64.wrap (r-i64.wrap (Qi (((A++a).drop 6).take 6)+1))).toNat<r.toNat;rw[er];omega
  ·rename_i b;have b:¬r>0:=b;refine .mk [] [1] _ R R R R R (Ql (l:=A++a) ?_) rfl;show _=Qr QaP k.toNat (Qao N);have e0:r.toNat=0:=by omega
   rw[e0] at c;have c:a=_:=c;rw[c,Qao,Qig (Qaq N 0) (Qaq N 6),p,eK]
 ·rename_i b f i;have b:r>0:=b;exact⟨.inl rfl,⟨a,vo N 6,rfl,e,Qaq N 6⟩,(by rw[e6,ew];omega:0≤i64.wrap (Qi (((a++vo N 6).drop 0).take 6)+1)),(by rw[e6,ew];omega:i64.wrap (Qi (((a++vo N 6).drop 0).take 6)+1)≤10000000)⟩
 ·rename_i b f i;have b:r>0:=b;have f:¬Qi (((a++vo N 6).drop 0).take 6)≥r:=f;rw[e6] at f;have er:i64.wrap (r-i64.wrap (Qi (((a++vo N 6).drop 0).take 6)+1))=r-(Qi a+1):=by rw[e6,ew,ew2 b]
  have eb:Qb7 0 (a++vo N 6) (i64.wrap (Qi (((a++vo N 6).drop 0).take 6)+1))=Qy (Qi a+1) a++vo N 6:=by rw[e6,ew,ep]
  apply Yw (_,Qy (Qi a+1) a);refine Yo ?_ (Yo ?_ (Le.mk [] [0,1] R R (QnD eb) ?ht))
  case ht=>repeat' constructor
  ·show i64.wrap (r-i64.wrap (Qi (((a++vo N 6).drop 0).take 6)+1))≤imin k 10000000∧vOk (Qy (Qi a+1) a)∧Qr (Qy 1) (i64.wrap (r-i64.wrap (Qi (((a++vo N 6).drop 0).take 6)+1))).toNat (Qy (Qi a+1) a)=_;rw[er,Qet e (by omega)];exact⟨by omega,QbU e (by omega),c⟩
  ·show(i64.wrap (r-i64.wrap (Qi (((a++vo N 6).drop 0).take 6)+1))).toNat<r.toNat;rw[er];omega
 ·show(0:Int)≤6∧(6:Int)≤12∧(12:Int)≤((a++vo N 6).length:Nat);rw[el];decide
 ·rename_i b;have b:¬r>0:=b
  have ee:a++vo N 6=A++vo N 6:=by
   have e0:r.toNat=0:=by omega
   rw[e0] at c;rw[p,←c];rfl
  refine Q4 n m (X:=Int×List Int) (fun(r,a)=>St.mk (E1 ((I (imin k 10000000))::E2 ((.cell (.ptr 0 0))::(.cell (.own 1))::E1 ((.cell (.sub 1 6 6))::(I r)::E5 ((I (i64.wrap (0+1)))::E20 (E10 (E5 []))))))) [some (.var [.imm (.slice none 0 0),.imm (.slice none 0 0)]),some (.arr (.int .i64) (A++a))])
   (fun(r,a)=>r≤imin k 10000000∧vOk a∧Qr (Qy 1) r.toNat a=Qr (Qy 1) (imin k 10000000).toNat (vo N 6)) (fun(r,_)=>r.toNat) (imin k 10000000,vo N 6) (Le.mk [] [0,1] R R ?_ ?_) ?_ fun(r,a) u=>?_
  rotate_right
  repeat' first|(apply Ea;conv=>whnf)|apply Eb|apply Ec|apply Ed|apply Ee|(apply Ei;intro _)|apply Ef n m|apply Eg n m
  rotate_right 3
  ·exact QnD ee
  ·repeat' constructor
  ·exact⟨Int.le_refl _,Qaq N 6,rfl⟩
  all_goals
   obtain⟨s,e,c⟩:=u;have j:r≤10000000:=by rw[eK] at s;omega
   have t:=Qeb e;have e6:(((A++a).drop 6).take 6)=a:=QKw g.len e.len;have ep:∀q,Qb7 6 (A++a) q=A++Qy q a:=fun q=>Qie g.len e.len q
   have el:(A++a).length=12:=by rw[Ym,g.len,e.len]
   have ew:i64.wrap (Qi a+1)=Qi a+1:=w64 (by omega) (by omega);have ew2:r>0→i64.wrap (r-(Qi a+1))=r-(Qi a+1):=fun h=>w64 (by omega) (by omega)
  all_goals first
   |exact Ya rfl
   |(show vOk (((A++a).drop 6).take 6)
     rw[e6];exact e)
   |skip
  ·rename_i b f;have b:r>0:=b;exact⟨.inr rfl,⟨A,a,rfl,g,e⟩,(by omega:0≤r),j⟩
  ·rename_i b f;have b:r>0:=b;refine .mk [] [1] _ R R R R R (Ql (l:=Qb7 6 (A++a) r) ?_) rfl;show _=Qr QaP k.toNat (Qao N);rw[ep,Qb2 e b (.inl (by have f:Qi (((A++a).drop 6).take 6)≥r:=f;rw[e6] at f;exact f)),c,Qao,Qig (Qaq N 0) (Qaq N 6),p,eK]
  ·rename_i b f i;have b:r>0:=b;exact⟨.inr rfl,⟨A,a,rfl,g,e⟩,(by omega:0≤r),j⟩
  ·rename_i b f i;have b:r>0:=b;refine .mk [] [1] _ R R R R R (Ql (l:=Qb7 6 (A++a) r) ?_) rfl;show _=Qr QaP k.toNat (Qao N);rw[ep,Qb2 e b (.inr (by have i:Qi (((A++a).drop 6).take 6)=100000:=i;rw[e6] at i;exact i)),c,Qao,Qig (Qaq N 0) (Qaq N 6),p,eK]
  ·rename_i b f i;have b:r>0:=b;exact⟨.inr rfl,⟨A,a,rfl,g,e⟩,(by rw[e6,ew];omega:0≤i64.wrap (Qi (((A++a).drop 6).take 6)+1)),(by rw[e6,ew];omega:i64.wrap (Qi (((A++a).drop 6).take 6)+1)≤10000000)⟩
  ·rename_i b f i;have b:r>0:=b;have f:¬Qi (((A++a).drop 6).take 6)≥r:=f;rw[e6] at f;have er:i64.wrap (r-i64.wrap (Qi (((A++a).drop 6).take 6)+1))=r-(Qi a+1):=by rw[e6,ew,ew2 b]
   have eb:Qb7 6 (A++a) (i64.wrap (Qi (((A++a).drop 6).take 6)+1))=A++Qy (Qi a+1) a:=by rw[e6,ew,ep]
   apply Yw (_,Qy (Qi a+1) a);refine Yo ?_ (Yo ?_ (Le.mk [] [0,1] R R (QnD eb) ?ht))
   case ht=>repeat' constructor
   ·show i64.wrap (r-i64.wrap (Qi (((A++a).drop 6).take 6)+1))≤imin k 10000000∧vOk (Qy (Qi a+1) a)∧Qr (Qy 1) (i64.wrap (r-i64.wrap (Qi (((A++a).drop 6).take 6)+1))).toNat (Qy (Qi a+1) a)=_;rw[er,Qet e (by omega)];exact⟨by omega,QbU e (by omega),c⟩
   ·show(i64.wrap (r-i64.wrap (Qi (((A++a).drop 6).take 6)+1))).toNat<r.toNat;rw[er];omega
  ·rename_i b;have b:¬r>0:=b;refine .mk [] [1] _ R R R R R (Ql (l:=A++a) ?_) rfl;show _=Qr QaP k.toNat (Qao N);have e0:r.toNat=0:=by omega
   rw[e0] at c;have c:a=_:=c;rw[c,Qao,Qig (Qaq N 0) (Qaq N 6),p,eK]
theorem oR(N:List Int):(0≤N.getD 0 0%4096∧N.getD 0 0%4096<4096)∧(0≤N.getD 1 0%16∧N.getD 1 0%16<16)∧(0≤N.getD 4 0%2∧N.getD 4 0%2<2)∧(0≤N.getD 6 0%4096∧N.getD 6 0%4096<4096)∧(0≤N.getD 7 0%16∧N.getD 7 0%16<16)∧(0≤N.getD 10 0%2∧N.getD 10 0%2<2):=by omega
theorem Qmb{a b:Int}(t:0≤a∧a<16)(s:0≤b∧b<2):0≤a*b∧a*b<16:=by
 have:b=0∨b=1:=by omega
 rcases this with rfl|rfl<;>omega
def Qi1(N:List Int):Int:=N.getD 1 0%16*(N.getD 4 0%2)+N.getD 7 0%16*(N.getD 10 0%2)
def QGc:PSpec:=⟨[gD],fun(d,_)=>(none,I (Qi1 d.1),[])⟩
theorem Qmc(N:List Int):i64.wrap (i64.wrap (N.getD 1 0%16*(N.getD 4 0%2))+i64.wrap (N.getD 7 0%16*(N.getD 10 0%2)))=Qi1 N:=by
 obtain⟨r,t,s,p,w,u⟩:=oR N;have m1:=Qmb t s;have m2:=Qmb w u;rw[w64 (x:=N.getD 1 0%16*(N.getD 4 0%2)) (by omega) (by omega),w64 (x:=N.getD 7 0%16*(N.getD 10 0%2)) (by omega) (by omega),w64 (by omega) (by omega)];rfl
theorem QDf:G0 218 QGc.spec:=by
 have e:S0 _:=Qa QdE (Qb (T:=tree));have g:=tabs e Qc;refine QGc.gd g e Tryz.func218 fun(d:Dv) _=>?_
 obtain⟨N,M⟩:=d
 repeat' first|(apply Ea;conv=>whnf)|apply Eb|apply Ec|apply Ed|apply Ee|(apply Ei;intro _)|apply Ef g e
 all_goals first
  |exact Ya rfl
  |(refine .k [] [] _ rfl (Qd ?_)
    exact Qmc N)
  |skip
def Qui(N:List Int):Int:=min (Qi (vo N 0)) (Qi (vo N 6))
def QBa:PSpec:=⟨[gD],fun(d,_)=>(none,I (Qui d.1),[])⟩
theorem Qyd:G0 152 QBa.spec:=by
 have e:S0 _:=Qa QdE (Qa Qpu (Qb (T:=tree)));have g:=tabs e Qc;refine QBa.gd g e Tryz.func152 fun(d:Dv) _=>?_
 obtain⟨N,M⟩:=d
 repeat' first|(apply Ea;conv=>whnf)|apply Eb|apply Ec|apply Ed|apply Ee|(apply Ei;intro _)|apply Ef g e
 all_goals first
  |exact Ya rfl
  |exact Qaq N 0
  |exact Qaq N 6
  |(refine .k [] [] _ rfl (Qd ?_)
    show imin (Qi (vo N 0)) (Qi (vo N 6))=Qui N
    rw[QS];rfl)
  |skip
def Qks:WSpec:=⟨List Int×Int,fun x=>[.c (.own 0),I1 x.2],fun x=>[.arr (.int .i64) x.1],fun a b=>(match a,b with| [.c (.own 0),.c (.imm (.int .i64 k))],[.arr (.int .i64) n]=>some (n,k)|_,_=>none),
 fun x=>(some ((0≤x.2∧x.2<4)∧List.length x.1=12),.cell (.sub 0 0 6),[some (.arr (.int .i64) x.1)],[])⟩
theorem Qjt:G0 235 Qks.spec:=by
 have e:S0 _:=(Qb (T:=tree))
 have g:=tabs e Qc;refine Qks.gd g e Tryz.func235 ?_ fun((l,a):List Int×Int) f=>?_
 ·intro a b x h;simp only[Qks] at h;split at h
  ·injection h with h;subst h;exact⟨rfl,rfl⟩
  ·cases h
 obtain⟨j,z⟩:(0≤a∧a<4)∧l.length=12:=f _ rfl;have m:a=0∨a=1∨a=2∨a=3:=by omega
 rcases m with rfl|rfl|rfl|rfl
 all_goals
  repeat' first|(apply Ea;conv=>whnf)|apply Eb|apply Ec|apply Ed|apply Ee|(apply Ei;intro _)|apply Ef g e
  all_goals first
   |exact Ya rfl
   |(exfalso;rename_i h;revert h;decide)
   |(show(0:Int)≤0∧(0:Int)≤6∧(6:Int)≤(l.length:Nat)
     rw[z];decide)
   |exact .k [] [0] _ R R
   |skip
def Qkt:WSpec:=⟨List Int×Int,fun x=>[.c (.own 0),I1 x.2],fun x=>[.arr (.int .i64) x.1],fun a b=>(match a,b with| [.c (.own 0),.c (.imm (.int .i64 k))],[.arr (.int .i64) n]=>some (n,k)|_,_=>none),
 fun x=>(some ((4≤x.2∧x.2<8)∧List.length x.1=12),.cell (.sub 0 6 6),[some (.arr (.int .i64) x.1)],[])⟩
theorem Qju:G0 235 Qkt.spec:=by
 have e:S0 _:=(Qb (T:=tree))
 have g:=tabs e Qc;refine Qkt.gd g e Tryz.func235 ?_ fun((l,a):List Int×Int) f=>?_
 ·intro a b x h;simp only[Qkt] at h;split at h
  ·injection h with h;subst h;exact⟨rfl,rfl⟩
  ·cases h
 obtain⟨j,z⟩:(4≤a∧a<8)∧l.length=12:=f _ rfl;have m:a=4∨a=5∨a=6∨a=7:=by omega
 rcases m with rfl|rfl|rfl|rfl
 all_goals
  repeat' first|(apply Ea;conv=>whnf)|apply Eb|apply Ec|apply Ed|apply Ee|(apply Ei;intro _)|apply Ef g e
  all_goals first
   |exact Ya rfl
   |(exfalso;rename_i h;revert h;decide)
   |(show(0:Int)≤6∧(6:Int)≤12∧(12:Int)≤(l.length:Nat)
     rw[z];decide)
   |exact .k [] [0] _ R R
   |skip
def Qku:WSpec:=⟨List Int×Int,fun x=>[.c (.own 0),I1 x.2],fun x=>[.arr (.int .i64) x.1],fun a b=>(match a,b with| [.c (.own 0),.c (.imm (.int .i64 k))],[.arr (.int .i64) n]=>some (n,k)|_,_=>none),
 fun x=>(some (x.2<0∨x.2≥8),.cell (.imm (.slice none 0 0)),[some (.arr (.int .i64) x.1)],[])⟩
theorem Qjv:G0 235 Qku.spec:=by
 have e:S0 _:=(Qb (T:=tree))
 have g:=tabs e Qc;refine Qku.gd g e Tryz.func235 ?_ fun((l,a):List Int×Int) f=>?_
 ·intro a b x h;simp only[Qku] at h;split at h
  ·injection h with h;subst h;exact⟨rfl,rfl⟩
  ·cases h
 have j:a<0∨a≥8:=f _ rfl
 repeat' first|(apply Ea;conv=>whnf)|apply Eb|apply Ec|apply Ed|apply Ee|(apply Ei;intro _)|apply Ef g e
 all_goals first
  |exact .k [] [0] _ R R
  |(exfalso;dsimp only at *;omega)
  |skip
def orF(N:List Int)(a:Int):Int:=Qb0 [N.getD 0 0%4096%256,N.getD 0 0%4096/256,N.getD 1 0%16,N.getD 2 0%256,N.getD 6 0%4096%256,N.getD 6 0%4096/256,N.getD 7 0%16,N.getD 8 0%256] a
theorem QBb{n:Int}:n/2 ^ (0:Int).toNat%2 ^ (8:Int).toNat=n%256:=by
 show n/1%256=n%256;rw[Int.ediv_one]
theorem QBc{n:Int}(h:0≤n∧n<4096):n/2 ^ (8:Int).toNat%2 ^ (4:Int).toNat=n/256:=by
 show n/256%16=n/256;omega
def Qpv:PSpec:=⟨[gD,gi],fun(d,a,_)=>(some (0≤a∧a<4),.tup [.agg [.own 0,.imm (.slice none 0 0)],I1 (orF d.1 a)],[.arr (.int .i64) (Qao d.1)])⟩
theorem Qrw:G0 177 Qpv.spec:=by
 have e:S0 _:=Qa QdE (Qa Qjt (Qa Qib (Qb (T:=tree))));have g:=tabs e Qc;refine Qpv.gd g e Tryz.func177 fun(d:Dv) (a:Int) f=>?_
 have j:0≤a∧a<4:=f _ rfl;obtain⟨N,M⟩:=d;obtain⟨r,t,s,p,w,u⟩:=oR N;have m:a=0∨a=1∨a=2∨a=3:=by omega
 rcases m with rfl|rfl|rfl|rfl
 all_goals
  repeat' first|(apply Ea;conv=>whnf)|apply Eb|apply Ec|apply Ed|apply Ee|(apply Ei;intro _)|apply Ef g e
  all_goals first
   |exact Ya rfl
   |exact⟨Ya rfl,rfl⟩
   |(exfalso;rename_i h;exact YD (show(6:Nat)=0 from h) (by decide))
   |(show 0≤N.getD 0 0%4096∧N.getD 0 0%4096<4611686018427387904∧_
     exact⟨by omega,by omega,by decide,by decide,by decide⟩)
   |(refine .k [] [2] _ rfl (Qcs ?_)
     first|exact QBb|exact QBc r|exact rfl)
   |skip
def Qpw:PSpec:=⟨[gD,gi],fun(d,a,_)=>(some (4≤a∧a<8),.tup [.agg [.own 0,.imm (.slice none 0 0)],I1 (orF d.1 a)],[.arr (.int .i64) (Qao d.1)])⟩
theorem Qrx:G0 177 Qpw.spec:=by
 have e:S0 _:=Qa QdE (Qa Qju (Qa Qib (Qb (T:=tree))));have g:=tabs e Qc;refine Qpw.gd g e Tryz.func177 fun(d:Dv) (a:Int) f=>?_
 have j:4≤a∧a<8:=f _ rfl;obtain⟨N,M⟩:=d;obtain⟨r,t,s,p,w,u⟩:=oR N;have m:a=4∨a=5∨a=6∨a=7:=by omega
 rcases m with rfl|rfl|rfl|rfl
 all_goals
  repeat' first|(apply Ea;conv=>whnf)|apply Eb|apply Ec|apply Ed|apply Ee|(apply Ei;intro _)|apply Ef g e
  all_goals first
   |exact Ya rfl
   |exact⟨Ya rfl,rfl⟩
   |(exfalso;rename_i h;exact YD (show(6:Nat)=0 from h) (by decide))
   |(show 0≤N.getD 6 0%4096∧N.getD 6 0%4096<4611686018427387904∧_
     exact⟨by omega,by omega,by decide,by decide,by decide⟩)
   |(refine .k [] [2] _ rfl (Qcs ?_)
     first|exact QBb|exact QBc p|exact rfl)
   |skip
def Qpx:PSpec:=⟨[gD,gi],fun(d,a,_)=>(some (a<0∨a≥8),.tup [.agg [.own 0,.imm (.slice none 0 0)],I1 (orF d.1 a)],[.arr (.int .i64) (Qao d.1)])⟩
theorem Qry:G0 177 Qpx.spec:=by
 have e:S0 _:=Qa QdE (Qa Qjv (Qa Qib (Qb (T:=tree))));have g:=tabs e Qc;refine Qpx.gd g e Tryz.func177 fun(d:Dv) (a:Int) f=>?_
 have j:a<0∨a≥8:=f _ rfl;obtain⟨N,M⟩:=d;obtain⟨r,t,s,p,w,u⟩:=oR N
 repeat' first|(apply Ea;conv=>whnf)|apply Eb|apply Ec|apply Ed|apply Ee|(apply Ei;intro _)|apply Ef g e
 all_goals first
  |exact j
  |contradiction
  |(refine .k [] [2] _ rfl (Qcs ?_)
    exact(QhU fun i hi=>by
     have:i<8:=hi
     omega).symm)
  |skip
theorem QLE(a:Int)(h:¬(0≤a∧a<8)):a<0∨a≥8:=by omega
def QGd:PSpec:=⟨[gD,gi],fun(d,a,_)=>(none,.tup [.agg [.own 0,.imm (.slice none 0 0)],I1 (orF d.1 a)],[.arr (.int .i64) (Qao d.1)])⟩
def QDg:PSpec:=⟨[gD,gi],fun(d,a,_)=>(some (0≤a∧a<8),.tup [.agg [.own 0,.imm (.slice none 0 0)],I1 (orF d.1 a)],[.arr (.int .i64) (Qao d.1)])⟩
theorem Quj:G0 177 QDg.spec:=QR.cases Qrw Qrx fun(d,a,_) f=>by
 have j:0≤a∧a<8:=f _ rfl;rcases Int.lt_or_le a 4 with h|h
 ·exact .inl ⟨fun q f=>by cases f;exact⟨j.1,h⟩,rfl⟩
 ·exact .inr ⟨fun q f=>by cases f;exact⟨h,j.2⟩,rfl⟩
theorem Qye:G0 177 QGd.spec:=QR.cases Quj Qry fun(d,a,_) _=>by
 by_cases h:0≤a∧a<8
 ·exact .inl ⟨fun q f=>by cases f;exact h,rfl⟩
 ·exact .inr ⟨fun q f=>by cases f;exact QLE a h,rfl⟩
def owF(N:List Int)(a k:Int):List Int :=
 if a=0 then (Qao N).set 0 (N.getD 0 0%4096/256*256+k%256) else if a=1 then (Qao N).set 0 (N.getD 0 0%4096%256+k%16*256) else if a=2 then ((Qao N).set 1 (k%16)).set 5 0 else if a=3 then (Qao N).set 2 (k%256)
 else if a=4 then (Qao N).set 6 (N.getD 6 0%4096/256*256+k%256) else if a=5 then (Qao N).set 6 (N.getD 6 0%4096%256+k%16*256) else if a=6 then ((Qao N).set 7 (k%16)).set 11 0 else if a=7 then (Qao N).set 8 (k%256) else Qao N
theorem QBd{n k:Int}(h:0≤n∧n<4096):2 ^ (0:Int).toNat*(2 ^ (8:Int).toNat*(n/2 ^ ((0:Int)+8).toNat)+k%2 ^ (8:Int).toNat)+n%2 ^ (0:Int).toNat=n/256*256+k%256:=by
 show 1*(256*(n/256)+k%256)+n%1=_;omega
theorem QBe{n k:Int}(h:0≤n∧n<4096):2 ^ (8:Int).toNat*(2 ^ (4:Int).toNat*(n/2 ^ ((8:Int)+4).toNat)+k%2 ^ (4:Int).toNat)+n%2 ^ (8:Int).toNat=n%256+k%16*256:=by
 show 256*(16*(n/4096)+k%16)+n%256=_;omega
theorem QgS{l:List Int}{i:Nat}{x y:Int}(h:x=y):l.set i x=l.set i y:=by rw[h]
def Qmd:PSpec:=⟨[gD,gi,gi],fun(d,a,k,_)=>(some (0≤a∧a<4),Qff,[.arr (.int .i64) (owF d.1 a k)])⟩
theorem QnE:G0 184 Qmd.spec:=by
 have e:S0 _:=Qa QdE (Qa Qjt (Qa Qic (Qa QU (Qb (T:=tree)))));have g:=tabs e Qc;refine Qmd.gd g e Tryz.func184 fun(d:Dv) (a k:Int) f=>?_
 have j:0≤a∧a<4:=f _ rfl;obtain⟨N,M⟩:=d;obtain⟨r,t,s,p,w,u⟩:=oR N;have m:a=0∨a=1∨a=2∨a=3:=by omega
 rcases m with rfl|rfl|rfl|rfl
 all_goals
  repeat' first|(apply Ea;conv=>whnf)|apply Eb|apply Ec|apply Ed|apply Ee|(apply Ei;intro _)|apply Ef g e
  all_goals first
   |exact Ya rfl
   |exact⟨Ya rfl,rfl⟩
   |(exfalso;rename_i h;exact YD (show(6:Nat)=0 from h) (by decide))
   |(show 0≤N.getD 0 0%4096∧N.getD 0 0%4096<4611686018427387904∧_
     exact⟨by omega,by omega,by decide,by decide,by decide⟩)
   |exact .k [] [2] _ R R
   |(refine .mk [] [2] _ R R R R R (Ql ?_) rfl
     first|exact QgS (QBd r)|exact QgS (QBe r))
   |skip
def Qme:PSpec:=⟨[gD,gi,gi],fun(d,a,k,_)=>(some (4≤a∧a<8),Qff,[.arr (.int .i64) (owF d.1 a k)])⟩
theorem QnF:G0 184 Qme.spec:=by
 have e:S0 _:=Qa QdE (Qa Qju (Qa Qic (Qa QU (Qb (T:=tree)))));have g:=tabs e Qc;refine Qme.gd g e Tryz.func184 fun(d:Dv) (a k:Int) f=>?_
 have j:4≤a∧a<8:=f _ rfl;obtain⟨N,M⟩:=d;obtain⟨r,t,s,p,w,u⟩:=oR N;have m:a=4∨a=5∨a=6∨a=7:=by omega
 rcases m with rfl|rfl|rfl|rfl
 all_goals
  repeat' first|(apply Ea;conv=>whnf)|apply Eb|apply Ec|apply Ed|apply Ee|(apply Ei;intro _)|apply Ef g e
  all_goals first
   |exact Ya rfl
   |exact⟨Ya rfl,rfl⟩
   |(exfalso;rename_i h;exact YD (show(6:Nat)=0 from h) (by decide))
   |(show 0≤N.getD 6 0%4096∧N.getD 6 0%4096<4611686018427387904∧_
     exact⟨by omega,by omega,by decide,by decide,by decide⟩)
   |exact .k [] [2] _ R R
   |(refine .mk [] [2] _ R R R R R (Ql ?_) rfl
     first|exact QgS (QBd p)|exact QgS (QBe p))
   |skip
def Qmf:PSpec:=⟨[gD,gi,gi],fun(d,a,k,_)=>(some (a<0∨a≥8),Qff,[.arr (.int .i64) (owF d.1 a k)])⟩
theorem QnG:G0 184 Qmf.spec:=by
 have e:S0 _:=Qa QdE (Qa Qjv (Qa Qic (Qa QU (Qb (T:=tree)))));have g:=tabs e Qc;refine Qmf.gd g e Tryz.func184 fun(d:Dv) (a k:Int) f=>?_
 have j:a<0∨a≥8:=f _ rfl;obtain⟨N,M⟩:=d;obtain⟨r,t,s,p,w,u⟩:=oR N
 repeat' first|(apply Ea;conv=>whnf)|apply Eb|apply Ec|apply Ed|apply Ee|(apply Ei;intro _)|apply Ef g e
 all_goals first
  |exact j
  |contradiction
  |(refine .mk [] [2] _ R R R R R (Ql (l:=Qao N) ?_) rfl
    show _=owF N a k;unfold owF
    rw[Yb (by omega),Yb (by omega),Yb (by omega),Yb (by omega),Yb (by omega),Yb (by omega),Yb (by omega),Yb (by omega)])
  |skip
def QDh:PSpec:=⟨[gD,gi,gi],fun(d,a,k,_)=>(none,Qff,[.arr (.int .i64) (owF d.1 a k)])⟩
def Qyf:PSpec:=⟨[gD,gi,gi],fun(d,a,k,_)=>(some (0≤a∧a<8),Qff,[.arr (.int .i64) (owF d.1 a k)])⟩
theorem Qrz:G0 184 Qyf.spec:=QR.cases QnE QnF fun(d,a,k,_) f=>by
 have j:0≤a∧a<8:=f _ rfl;rcases Int.lt_or_le a 4 with h|h
 ·exact .inl ⟨fun q f=>by cases f;exact⟨j.1,h⟩,rfl⟩
 ·exact .inr ⟨fun q f=>by cases f;exact⟨h,j.2⟩,rfl⟩
theorem Quk:G0 184 QDh.spec:=QR.cases Qrz QnG fun(d,a,k,_) _=>by
 by_cases h:0≤a∧a<8
 ·exact .inl ⟨fun q f=>by cases f;exact h,rfl⟩
 ·exact .inr ⟨fun q f=>by cases f;exact QLE a h,rfl⟩
end Go.Proofs.YtofgbclopbmlcaaGreat

namespace Go.Fw
open Go.IntKind (i64)
set_option maxHeartbeats 4000000
set_option linter.unusedVariables false
set_option linter.unusedSimpArgs false
theorem QaI.nil_ro{E:Env}(t:Ty){vs:List Value}(h:QaI E (.imm (.slice none 0 0)) vs):QaI E (.ro t []) vs:=by
 obtain⟨e,_⟩:=h;exact⟨_,e,none,0,rfl,YE _,fun hne=>YD rfl hne⟩
theorem Le.nilro{m:Nat}{st:St}(i:Nat)(t:Ty)(h:st.tmps[i]?=some (.imm (.slice none 0 0))):Le m st { tmps:=st.tmps.set i (.cell (.ro t [])),heap:=st.heap }:=by
 intro E0 E a hm hs hf;refine⟨E,rfl,⟨hs.defers,?_,fun j y hy=>?_,hs.ok,hs.H,hs.U⟩,hf⟩
 ·simpa using hs.len
 ·have hy:(st.tmps.set i (.cell (.ro t [])))[j]?=some y:=hy;rw[YY] at hy;by_cases e:i=j
  ·subst e;obtain⟨v,h1,h2⟩:=hs.tmp i _ h;rw[Yf rfl,Yf (Yu.1 h).1] at hy;injection hy with hy
   subst hy;exact⟨v,h1,QaI.nil_ro t h2⟩
  ·rw[Yb e] at hy;exact hs.tmp j y hy
def QKv(c d:Cell):Prop:=c=d∨(c=.imm (.slice none 0 0)∧∃t,d=.ro t [])
def Qpc:List Cell→List Cell→Prop
 | [],[]=>True
 |c::cs,d::ds=>QKv c d∧Qpc cs ds
 |_,_=>False
theorem Qh5:∀{cs ds:List Cell},Qpc cs ds→ds.map Cell.size=cs.map Cell.size
 | [],[],_=>rfl
 |c::cs,d::ds,⟨h1,h2⟩=>by
  simp only[Jb,Qh5 h2];rcases h1 with rfl|⟨rfl,t,rfl⟩<;>rfl
 | [],_::_,h=>h.elim
 |_::_,[],h=>h.elim
theorem Qjr{E:Env}:∀{cs ds:List Cell} {vs:List Value},Qpc cs ds→IR E cs vs→IR E ds vs
 | [],[],_,_,h=>h
 |c::cs,d::ds,_,⟨h1,h2⟩,⟨r,s,e,g1,g2⟩=>by
  refine⟨r,s,e,?_,Qjr h2 g2⟩;rcases h1 with rfl|⟨rfl,t,rfl⟩
  ·exact g1
  ·exact QaI.nil_ro t g1
 | [],_::_,_,h,_=>h.elim
 |_::_,[],_,h,_=>h.elim
theorem Qes{α:Type}:∀(l:List (Option Blk)) (b:Nat) (o:Option Blk) (j:Nat),b<l.length→(Qad l b o)[j]?=if j=b then some o else l[j]?
 |_::r,0,o,j,_=>by cases j<;>simp[Qad]
 |x::r,b+1,o,j,h=>by
  cases j with
  |zero=>simp[Qad]
  |succ j =>
   have:=Qes (α:=α) r b o j (by simpa using h);simpa[Qad] using this
theorem Qd7:∀(l:List (Option Blk)) (b:Nat) (o:Option Blk),b<l.length→(Qad l b o).length=l.length
 |_::r,0,o,_=>by simp[Qad]
 |x::r,b+1,o,h=>by simpa[Qad] using Qd7 r b o (by simpa using h)
theorem Le.nilroH{m:Nat}{st:St}(b:Nat)(cs ds:List Cell)(h:st.heap[b]?=some (some (.var cs)))(hn:Qpc cs ds):Le m st { tmps:=st.tmps,heap:=Qad st.heap b (some (.var ds)) }:=by
 intro E0 E a hm hs hf;have hlt:b<st.heap.length:=(Yu.1 h).1;have hlook:st.look b=some (.var cs):=by unfold St.look;rw[h]
 have hb:E.H b=some (.var cs):=(hs.H b).trans hlook;obtain⟨hu,⟨g,ca,el,hr,hw,hir⟩,hS⟩:=hs.ok.blk b _ hb;have hsh:shape (.var ds)=shape (.var cs):=by simp only[shape];rw[Qh5 hn]
 have hwr:Writes E g ca ca el E.w :=
  ⟨hw,hw,rfl,fun _ _=>rfl,rfl,rfl,rfl,rfl⟩
 refine⟨QdY E b (.var ds) E.w,rfl,⟨hs.defers,hs.len,fun j y hy=>?_,QjV hs.ok hb hr hsh hwr (Qjr hn hir),fun x=>?_,fun x hx=>?_⟩,?_⟩
 ·obtain⟨v,h1,h2⟩:=hs.tmp j y hy;exact⟨v,h1,h2.ext (QcG hs.ok hb hr hsh hwr)⟩
 ·show(if x=b then some (.var ds) else E.H x)=St.look { tmps:=st.tmps,heap:=Qad st.heap b (some (.var ds)) } x;unfold St.look;rw[Qes (α:=Nat) _ _ _ _ hlt];split
  ·rfl
  ·exact hs.H x
 ·have:=hs.U x hx;simpa[Qd7 _ _ _ hlt] using this
 ·exact⟨QjW hs.ok hb hr hwr hf.fr,hf.ext.trans (QcG hs.ok hb hr hsh hwr)⟩
section
variable {P:Program} {T:Tab}
theorem QA(hT:TabOk P T)(hP:Q7 P T){A:Type}{m:Nat}{c:Code}{st:St}{K:Cont}(n:Nat)(S:Int→A→St)(I:Nat→A→Prop)(a0:A)(h0:Le m st (S 0 a0))(hI:I 0 a0)
 (h:∀(k:Nat) a,k≤n→I k a→Go (QgP (S (k:Int) a) fun st=>exR P T m c st fun e st'=>match e with|.normal=>∃i' a',(k<n∧i'=((k+1:Nat):Int)∧I (k+1) a')∧Le m st' (S i' a')|e=>K e st')):LoopG P m c st K:=by
 refine QhG (X:=Nat×A) (fun x=>S (x.1:Int) x.2) (fun x=>x.1≤n∧I x.1 x.2) (fun x=>n-x.1) (0,a0) h0 ⟨YR _,hI⟩ fun x hx=>?_
 refine Does.mono (Qkh hT hP (h x.1 x.2 hx.1 hx.2)) fun e st' hk=>?_
 cases e with
 |normal =>
  obtain⟨i',a',⟨hlt,e,hi⟩,hle⟩:=hk;subst e;exact⟨(x.1+1,a'),⟨hlt,hi⟩,by show n-(x.1+1)<n-x.1;omega,hle⟩
 |_=>exact hk
end
end Go.Fw

