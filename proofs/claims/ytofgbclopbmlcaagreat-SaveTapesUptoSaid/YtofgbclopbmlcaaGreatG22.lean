/- Part 22 of the proof. Conditions: none. -/
import Derived.Test.YtofgbclopbmlcaaGreatG21
import Derived.Test.YtofgbclopbmlcaaGreatG13
import Derived.Test.YtofgbclopbmlcaaGreatG10
import Derived.Test.YtofgbclopbmlcaaGreatG20
namespace Go.Proofs.YtofgbclopbmlcaaGreat
open Go.IntKind (i64)
set_option maxHeartbeats 8000000
open Go.Fw
set_option linter.unusedVariables false
set_option linter.unusedSimpArgs false
set_option maxRecDepth 100000
def QDW(n lo t:Int):Int:=if n<lo then lo else if n>t then t else n
def QLT:PSpec:=⟨[gi,gi,gi],fun(n,lo,t,_)=>(none,I (QDW n lo t),[])⟩
theorem QHc:G0 80 QLT.spec:=by
 have f:S0 _:=(Qb (T:=tree))
 have i:=tabs f Qc;refine QLT.gd i f Tryz.func80 fun(n lo t:Int) g=>?_
 repeat' first|(apply Ea;conv=>whnf)|apply Eb|apply Ec|apply Ed|apply Ee|(apply Ei;intro _)|apply Ef i f
 all_goals
  refine .k [] [] _ rfl (Qd ?_);show _=QDW n lo t;dsimp only[gi,Den] at *;unfold QDW;split<;>(try split)<;>omega
theorem Qis(n:Int):QDW n 0 8=Qar n:=by unfold QDW Qar;split<;>(try split)<;>omega
def rfV(p n c:Int):Int :=
 let q:=Q6 .i64 p 130;let q:=if n=0 then lor .i64 q 2 else q
 let q:=lor .i64 q (land .i64 n 128)
 if c≥0 then lor .i64 (Q6 .i64 q 1) c else q
def Qvf:PSpec:=⟨[gi,gi,gi],fun(p,n,c,_)=>(none,I (rfV p n c),[])⟩
theorem Qvg:G0 220 Qvf.spec:=by
 have f:S0 _:=(Qb (T:=tree))
 have i:=tabs f Qc;refine Qvf.gd i f Tryz.func220 fun(p n c:Int) g=>?_
 repeat' first|(apply Ea;conv=>whnf)|apply Eb|apply Ec|apply Ed|apply Ee|(apply Ei;intro _)|apply Ef i f
 all_goals
  refine .k [] [] _ rfl (Qd ?_);show _=rfV p n c
  simp_all [rfV]<;>(intro h;exfalso;omega)
theorem QDX:∀n:Int,0≤n→n<256→land .i64 n 128=if n≥128 then 128 else 0:=QdN (fun n=>land .i64 n 128=if n≥128 then 128 else 0) (by decide +kernel)
def rfB(p:Int)(z m:Bool):Int:=lor .i64 (cond z (lor .i64 (Q6 .i64 p 130) 2) (Q6 .i64 p 130)) (cond m 128 0)
theorem QBw(z m:Bool):∀p:Int,0≤p→p<256→rfB p z m=QcF (QcF p 2 z) 128 m:=by
 cases z<;>cases m
 ·exact QdN (fun p=>rfB p false false=QcF (QcF p 2 false) 128 false) (by decide +kernel)
 ·exact QdN (fun p=>rfB p false true=QcF (QcF p 2 false) 128 true) (by decide +kernel)
 ·exact QdN (fun p=>rfB p true false=QcF (QcF p 2 true) 128 false) (by decide +kernel)
 ·exact QdN (fun p=>rfB p true true=QcF (QcF p 2 true) 128 true) (by decide +kernel)
theorem QLU{p n:Int}(s:0≤n∧n<256):lor .i64 (if n=0 then lor .i64 (Q6 .i64 p 130) 2 else Q6 .i64 p 130) (land .i64 n 128)=rfB p (decide (n=0)) (decide (n≥128)):=by
 rw[QDX n s.1 s.2];unfold rfB;by_cases r:n=0<;>by_cases j:n≥128<;>simp[r,j]
theorem Qzd{p n:Int}(g:0≤p∧p<256)(s:0≤n∧n<256):rfV p n (-1)=nzV p n:=by
 unfold rfV nzV;simp only[QLU s];rw[Yb (by omega),QBw _ _ p g.1 g.2]
theorem QNQ(x:Int):lor .i64 (Q6 .i64 x 1) 0=Q6 .i64 x 1:=by
 show i64.wrap (((BitVec.ofInt 64 (Q6 .i64 x 1) ||| BitVec.ofInt 64 0).toNat:Nat):Int)=_;have:BitVec.ofInt 64 (Q6 .i64 x 1) ||| BitVec.ofInt 64 0=BitVec.ofInt 64 (Q6 .i64 x 1):=by simp
 rw[this,QQ];have w:Q6 .i64 x 1=i64.wrap (((BitVec.ofInt 64 x &&& ~~~(BitVec.ofInt 64 1)).toNat:Nat):Int):=rfl;generalize((BitVec.ofInt 64 x &&& ~~~(BitVec.ofInt 64 1)).toNat:Nat)=m at w;rw[w,Qkz,Qkz];unfold u64;omega
theorem QfS{p n c:Int}(g:0≤p∧p<256)(s:0≤n∧n<256)(u:c=0∨c=1):rfV p n c=Qlg p n c:=by
 unfold rfV Qlg;simp only[QLU s];rw[QBw _ _ p g.1 g.2];rcases u with rfl|rfl
 ·rw[Yf (by omega)];show lor .i64 (Q6 .i64 (nzV p n) 1) 0=QcF (nzV p n) 1 (decide ((0:Int)=1));rw[QNQ];rfl
 ·rw[Yf (by omega)];rfl
theorem QBx(p:Prop)[Decidable p]:QgV (Qan (kt:=.bool) (vt:=.int .i64) (Qaw (kt:=.bool) (vt:=.int .i64) [] true (1:Int)) (decide p)) (dflt (.int .i64))=if p then (1:Int) else 0:=by
 by_cases h:p
 ·rw[Yl h,Yf h];rfl
 ·rw[Yn h,Yb h];rfl
def QHd(d a b c:Int):Prop:=(0≤a∧a<256)∧(0≤b∧b<256)∧Qw8 c
def QHe(d a b c:Int):Int:=if d=4 then (a+b+c)%256 else if d=5 then (a-b-(1-c))%256 else (a-b)%256
def QHf(d a b c:Int):Int:=if d=4 then (a+b+c)/256 else if d=5 then 1-QkK (a-b-(1-c)) else 1-QkK (a-b)
def QHg:PSpec:=⟨[gi,gi,gi,gi],fun(d,a,b,c,_)=>(some (QHd d a b c),.tup [I1 (QHe d a b c),I1 (QHf d a b c)],[])⟩
theorem QDY:G0 221 QHg.spec:=by
 have f:S0 _:=Qa QbC (Qb (T:=tree));have i:=tabs f Qc;refine QHg.gd i f Tryz.func221 fun(d a b c:Int) g=>?_
 obtain⟨ha,w,u⟩:QHd d a b c:=g _ rfl
 repeat' first|(apply Ea;conv=>whnf)|apply Eb|apply Ec|apply Ed|apply Ee|(apply Ei;intro _)|apply Ef i f
 all_goals first
  |exact Ya rfl
  |skip
 all_goals(try refine .k [] [] _ rfl (Qeq ?_ ?_))
 all_goals
  unfold Qw8 at u;dsimp only[gi,Den] at *;clear g i f
 ·rename_i h;simp only[QHe,Yf h,Qkz,QuC];split<;>omega
 ·rename_i h;simp only[QHf,Yf h,Qkz,QDv];split<;>omega
 ·rename_i r j;simp only[QHe,Yb r,Yf j,Qkz];omega
 ·rename_i r j;have e:i64.wrap (i64.wrap (a-b)-i64.wrap (1-c))=a-b-(1-c):=by simp only[Qkz];omega
  simp only[QHf,Yb r,Yf j];rw[e,QBx];unfold QkK;split<;>omega
 ·rename_i r j;simp only[QHe,Yb r,Yb j,Qkz];omega
 ·rename_i r j;simp only[QHf,Yb r,Yb j];rw[QBx];unfold QkK;split<;>omega
def tnN(d a c:Int):Int:=if d=12 then a*2%256 else if d=14 then a*2%256+c else if d=13 then a/2 else a/2+128*c
def tnC(d a:Int):Int:=if d=12∨d=14 then a/128 else a%2
def QLV(a c:Int):Prop:=(0≤a∧a<256)∧Qw8 c
def Qvh:PSpec:=⟨[gi,gi,gi],fun(d,a,c,_)=>(some (QLV a c),.tup [I1 (tnN d a c),I1 (tnC d a)],[])⟩
theorem Qvi:G0 222 Qvh.spec:=by
 have f:S0 _:=(Qb (T:=tree))
 have i:=tabs f Qc;refine Qvh.gd i f Tryz.func222 fun(d a c:Int) g=>?_
 obtain⟨ha,u⟩:QLV a c:=g _ rfl
 repeat' first|(apply Ea;conv=>whnf)|apply Eb|apply Ec|apply Ed|apply Ee|(apply Ei;intro _)|apply Ef i f
 all_goals first
  |exact Ya rfl
  |skip
 all_goals(try refine .k [] [] _ rfl (Qeq ?_ ?_))
 all_goals
  unfold Qw8 at u;dsimp only[gi,Den] at *;clear g i f
 all_goals
  simp only[tnN,tnC,QuC,QDv]
  simp_all [Qkz]
 all_goals omega
def QsB(p:Int→Bool):List Int→Int→Int
 | [],_=>-1
 |a::l,i=>if p a=true then i else QsB p l (i+1)
theorem Qp6(p:Int→Bool):∀(l:List Int) (i:Int),0≤i→decide (QsB p l i≥0)=l.any p
 | [],i,h=>by simp[QsB]
 |a::l,i,h=>by
  unfold QsB;rw[List.any_cons];cases d:p a with
  |true=>simpa using h
  |false=>simpa using Qp6 p l (i+1) (by omega)
theorem Qmt(p:Int→Bool){l:List Int}{k:Nat}(h:k<l.length):QsB p (l.drop k) k=if p (l.getD k 0)=true then (k:Int) else QsB p (l.drop (k+1)) ((k:Int)+1):=by
 rw[YJ h,QsB];simp[h]
def QBt:PSpec:=⟨[gl,gi],fun(l,v,_)=>(some (List.length l≤4611686018427387904),I (QsB (fun a=>decide (v=a)) l 0),[])⟩
theorem Qy6:G0 195 QBt.spec:=by
 have b:S0 _:=(Qb (T:=tree))
 have g:=tabs b Qc;refine QBt.gd g b Tryz.func195 fun(l:List Int) (v:Int) d=>?_
 have d:l.length≤4611686018427387904:=d _ rfl
 repeat' first|(apply Ea;conv=>whnf)|apply Eb|apply Ec|apply Ed|apply Ee|(apply Ei;intro _)|apply Ef g b
 refine Q4 g b (X:=Int) (fun i=>St.mk ((.cell (.ro (.int .i64) l))::(I v)::E5 ((I l.length)::(I i)::E10 [])) [])
  (fun i=>∃k:Nat,i=k∧k≤l.length∧QsB (fun a=>decide (v=a)) l 0=QsB (fun a=>decide (v=a)) (l.drop k) k) (fun i=>(l.length-i).toNat) 0 (Le.mk [] [] R R R ?_) ?_ fun i m=>?_
 rotate_right
 repeat' first|(apply Ea;conv=>whnf)|apply Eb|apply Ec|apply Ed|apply Ee|(apply Ei;intro _)|apply Ef g b
 ·obtain⟨k,rfl,n,j⟩:=m;omega
 ·rename_i c;obtain⟨k,rfl,n,j⟩:=m;have f:k<l.length:=by omega
  have c:v=l.getD k 0:=by simpa[dflt] using c
  refine .k [] [] _ rfl (Qd ?_);show(k:Int)=QsB (fun a=>decide (v=a)) l 0;rw[j,Qmt _ f,Yf (Yl c)]
 ·rename_i c;obtain⟨k,rfl,n,j⟩:=m;have f:k<l.length:=by omega
  have c:¬v=l.getD k 0:=by simpa[dflt] using c
  have e:i64.wrap ((k:Int)+1)=((k+1:Nat):Int):=by rw[w64 (by omega) (by omega)];omega
  apply Yw _;refine Yo ?_ (Yo ?_ (Le.k [] [] ?hh))
  case hh=>repeat' constructor
  ·refine⟨k+1,e,by omega,?_⟩;rw[j,Qmt _ f,Yb (by simpa using c)];rfl
  ·show(l.length-i64.wrap ((k:Int)+1)).toNat<(l.length-(k:Int)).toNat;rw[e];omega
 ·obtain⟨k,rfl,n,j⟩:=m;refine .k [] [] _ rfl (Qd ?_);show -1=QsB (fun a=>decide (v=a)) l 0;rw[j,Yk (by omega)];rfl
 ·repeat' constructor
 ·exact⟨0,rfl,by omega,rfl⟩
def Qmu:PSpec:=⟨[gl,gi],fun(l,v,_)=>(some (List.length l≤4611686018427387904),.cell (bv (l.any fun a=>decide (v=a))),[])⟩
theorem QnP:G0 105 Qmu.spec:=by
 have b:S0 _:=Qa Qy6 (Qb (T:=tree));have g:=tabs b Qc;refine Qmu.gd g b Tryz.func105 fun(l:List Int) (v:Int) d=>?_
 have d:l.length≤4611686018427387904:=d _ rfl
 repeat' first|(apply Ea;conv=>whnf)|apply Eb|apply Ec|apply Ed|apply Ee|(apply Ei;intro _)|apply Ef g b
 ·exact d
 ·refine .k [] [] _ rfl (Qj ?_);exact Qp6 _ l 0 (by omega)
set_option linter.constructorNameAsVariable false
structure PutX where
 nil:Bool
 l:List Int
 n:Int
def QDB:List V1→List Blk→Option PutX:=fun a b=>match a,b with
 | [.c (.imm (.slice none 0 0)),.c (.imm (.int .i64 n))],[]=>some ⟨true,[],n⟩
 | [.c (.own 0),.c (.imm (.int .i64 n))],[.arr (.int .u8) l]=>some ⟨false,l,n⟩
 |_,_=>none
def QuT:PutX→List V1
 |⟨true,_,n⟩=>[.c (.imm (.slice none 0 0)),.c (iv .i64 n)]
 |⟨false,_,n⟩=>[.c (.own 0),.c (iv .i64 n)]
def QGy:PutX→List Blk
 |⟨true,_,_⟩=>[]
 |⟨false,l,_⟩=>[.arr (.int .u8) l]
theorem QyQ{a:List V1}{b:List Blk}{x:PutX}(h:QDB a b=some x):a=QuT x∧b=QGy x:=by
 unfold QDB at h;split at h
 ·injection h with h;subst h;exact⟨rfl,rfl⟩
 ·injection h with h;subst h;exact⟨rfl,rfl⟩
 ·cases h
def QID(x:PutX):Prop:=Q1 x.n∧x.l.length≤35184372088832∧(x.nil=true→x.l=[])
def QGz:PutX→Option Prop×AV×List (Option Blk)×List Blk
 |⟨true,l,n⟩=>(some (QID ⟨true,l,n⟩),.cell (.own 0),[],[.arr (.int .u8) (QbO n)])
 |⟨false,l,n⟩=>(some (QID ⟨false,l,n⟩),.cell (.own 1),[none],[.arr (.int .u8) (l++QbO n)])
def QGA:WSpec:=⟨PutX,QuT,QGy,QDB,QGz⟩
theorem Qim{l l':List Int}(h:l=l'):[some (Blk.arr (.int .u8) l)]=[some (Blk.arr (.int .u8) l')]:=by rw[h]
def Qw7(l0:List Int)(n:Int)(f:Bool)(l:List Int)(u:Int):Prop:=(0≤u∧u<18446744073709551616)∧l++Qmp u.toNat=l0++QbO n∧(f=true→l=l0)
theorem Qp0{l0 l:List Int}{n u:Int}{f:Bool}(g:Q1 n)(h:Qw7 l0 n f l u):l.length+1≤l0.length+10:=by
 have s:=Yv List.length h.2.1;rw[Ym,Ym] at s;have r:=QyN u.toNat;have w:=Qak g;omega
theorem QkC{l0 l:List Int}{n u:Int}{f:Bool}(h:Qw7 l0 n f l u)(A:u≥128):Qw7 l0 n false (l++[lor .u8 (IntKind.u8.wrap u) 128]) (shr .u64 u 7):=by
 obtain⟨s,r,w⟩:=h;refine⟨by rw[Qcf];omega,?_,fun h=>by cases h⟩;rw[Qcy (by omega)] at r;rw[←r,Qcf,wu8,QpZ _ (by omega) (by omega),Yy];congr 2;simp only[List.singleton_append];congr 1
 ·omega
 ·congr 1;omega
theorem Qhe{l0 l:List Int}{n u:Int}{f:Bool}(h:Qw7 l0 n f l u)(A:¬u≥128):l++[IntKind.u8.wrap u]=l0++QbO n:=by
 obtain⟨s,r,w⟩:=h;rw[QbN (by omega)] at r;rw[←r,wu8];congr 2;omega
theorem Qp1{l0:List Int}{n:Int}{f:Bool}(g:Q1 n)(h:¬n<0):Qw7 l0 n f l0 (shl .u64 (IntKind.u64.wrap n) 1):=by
 unfold Q1 at g;rw[QGx,QpW];refine⟨by omega,?_,fun _=>rfl⟩;unfold QbO zig;rw[Yb h];congr 2;omega
theorem Qp2{l0:List Int}{n:Int}{f:Bool}(g:Q1 n)(h:n<0):Qw7 l0 n f l0 (lxor .u64 (if IntKind.u64.signed then -1 else IntKind.u64.max) (shl .u64 (IntKind.u64.wrap n) 1)):=by
 unfold Q1 at g;rw[QGx,QpW,QyP (by omega)];refine⟨by omega,?_,fun _=>rfl⟩;unfold QbO zig;rw[Yf h];congr 2;omega
theorem QBr{l l':List Int}(h:l=l'):[none,some (Blk.arr (.int .u8) l)]=[none,some (Blk.arr (.int .u8) l')]:=by rw[h]
def QGB:Bool×List Int×Int→St:=fun(f,l,u)=>match f with
 |true=>St.mk ((.cell (.imm (.slice none 0 0)))::E3 (E1 ((.cell (iv .u64 u))::E20 (E2 [])))) []
 |false=>St.mk ((.cell (.own 0))::E3 (E1 ((.cell (iv .u64 u))::E20 (E2 [])))) [some (.arr (.int .u8) l)]
def QGC:Bool×List Int×Int→St:=fun(f,l,u)=>match f with
 |true=>St.mk ((.cell (.own 0))::E3 (E1 ((.cell (iv .u64 u))::E20 (E2 [])))) [some (.arr (.int .u8) l)]
 |false=>St.mk ((.cell (.own 1))::E3 (E1 ((.cell (iv .u64 u))::E20 (E2 [])))) [none,some (.arr (.int .u8) l)]
theorem QrQ:G0 166 QGA.spec:=by
 have m:S0 _:=(Qb (T:=tree))
 have p:=tabs m Qc;refine QGA.gd p m Tryz.func166 (fun _ _ _ h=>QyQ h) fun(x:PutX) t=>?_
 obtain⟨nil,l,n⟩:=x;cases nil with
 |true =>
  obtain⟨g,z,hx⟩:QID ⟨true,l,n⟩:=t _ rfl;obtain rfl:l=[]:=hx rfl;clear t
  repeat' first|(apply Ea;conv=>whnf)|apply Eb|apply Ec|apply Ed|apply Ee|(apply Ei;intro _)|apply Ef p m
  all_goals first
   |exact Ya rfl
   |skip
  all_goals first
  |refine Q4 p m (X:=Bool×List Int×Int) QGB (fun(f,l,u)=>Qw7 [] n f l u) (fun(f,l,u)=>u.toNat) (true,[],shl .u64 (IntKind.u64.wrap n) 1) (Le.mk [] [] R R (by exact rfl) (by repeat' constructor)) (Qp1 g (by assumption)) fun(f,l',u) j=>?_
  |refine Q4 p m (X:=Bool×List Int×Int) QGB (fun(f,l,u)=>Qw7 [] n f l u) (fun(f,l,u)=>u.toNat) (true,[],lxor .u64 (if IntKind.u64.signed then -1 else IntKind.u64.max) (shl .u64 (IntKind.u64.wrap n) 1)) (Le.mk [] [] R R (by exact rfl) (by repeat' constructor)) (Qp2 g (by assumption)) fun(f,l',u) j=>?_
  all_goals
   have q:=Qp0 g j;cases f with
   |true =>
    obtain rfl:l'=[]:=j.2.2 rfl
    repeat' first|(apply Ea;conv=>whnf)|apply Eb|apply Ec|apply Ed|apply Ee|(apply Ei;intro _)|apply Ef p m
    all_goals first
     |exact Ya rfl
     |(show(l'.length+1)*1≤140737488355328
       simp only[YU] at q
       omega)
     |(rename_i h
       exact .mk [] [1] _ R R R R R (Qim (Qhe j h)) rfl)
     |(rename_i h
       have h:u≥128:=h;apply Yw (false,_,_);refine Yo ?_ (Yo ?_ (Le.k [] [1] ?hh))
       case hh=>repeat' constructor
       ·exact QkC j h
       ·show(shr .u64 u 7).toNat<u.toNat
        rw[Qcf];omega)
     |skip
   |false =>
    repeat' first|(apply Ea;conv=>whnf)|apply Eb|apply Ec|apply Ed|apply Ee|(apply Ei;intro _)|apply Ef p m
    all_goals first
     |exact Ya rfl
     |(show(l'.length+1)*1≤140737488355328
       simp only[YU] at q
       omega)
     |(rename_i h
       exact .mk [] [2] _ R R R R R (Qim (Qhe j h)) rfl)
     |(rename_i h
       have h:u≥128:=h;apply Yw (false,_,_);refine Yo ?_ (Yo ?_ (Le.k [] [2] ?hh))
       case hh=>repeat' constructor
       ·exact QkC j h
       ·show(shr .u64 u 7).toNat<u.toNat
        rw[Qcf];omega)
     |skip
 |false =>
  obtain⟨g,z,hx⟩:QID ⟨false,l,n⟩:=t _ rfl;clear t
  repeat' first|(apply Ea;conv=>whnf)|apply Eb|apply Ec|apply Ed|apply Ee|(apply Ei;intro _)|apply Ef p m
  all_goals first
   |exact Ya rfl
   |skip
  all_goals first
  |refine Q4 p m (X:=Bool×List Int×Int) QGC (fun(f,l',u)=>Qw7 l n f l' u) (fun(f,l,u)=>u.toNat) (true,l,shl .u64 (IntKind.u64.wrap n) 1) (Le.mk [] [0] R R (by exact rfl) (by repeat' constructor)) (Qp1 g (by assumption)) fun(f,l',u) j=>?_
  |refine Q4 p m (X:=Bool×List Int×Int) QGC (fun(f,l',u)=>Qw7 l n f l' u) (fun(f,l,u)=>u.toNat) (true,l,lxor .u64 (if IntKind.u64.signed then -1 else IntKind.u64.max) (shl .u64 (IntKind.u64.wrap n) 1)) (Le.mk [] [0] R R (by exact rfl) (by repeat' constructor)) (Qp2 g (by assumption)) fun(f,l',u) j=>?_
  all_goals
   have q:=Qp0 g j;cases f with
   |true =>
    obtain rfl:l'=l:=j.2.2 rfl
    repeat' first|(apply Ea;conv=>whnf)|apply Eb|apply Ec|apply Ed|apply Ee|(apply Ei;intro _)|apply Ef p m
    all_goals first
     |exact Ya rfl
     |(show(l'.length+1)*1≤140737488355328
       have z:l'.length≤35184372088832:=z
       omega)
     |(rename_i h
       exact .mk [] [0,2] _ R R R R R (QBr (Qhe j h)) rfl)
     |(rename_i h
       have h:u≥128:=h;apply Yw (false,_,_);refine Yo ?_ (Yo ?_ (Le.k [] [0,2] ?hh))
       case hh=>repeat' constructor
       ·exact QkC j h
       ·show(shr .u64 u 7).toNat<u.toNat
        rw[Qcf];omega)
     |skip
   |false =>
    repeat' first|(apply Ea;conv=>whnf)|apply Eb|apply Ec|apply Ed|apply Ee|(apply Ei;intro _)|apply Ef p m
    all_goals first
     |exact Ya rfl
     |(show(l'.length+1)*1≤140737488355328
       have z:l.length≤35184372088832:=z
       omega)
     |(rename_i h
       exact .mk [] [0,3] _ R R R R R (QBr (Qhe j h)) rfl)
     |(rename_i h
       have h:u≥128:=h;apply Yw (false,_,_);refine Yo ?_ (Yo ?_ (Le.k [] [0,3] ?hh))
       case hh=>repeat' constructor
       ·exact QkC j h
       ·show(shr .u64 u 7).toNat<u.toNat
        rw[Qcf];omega)
     |skip
def QyR(n:Int)(l:List Int)(d u:Int):Prop:=(0≤u∧u<18446744073709551616)∧(0≤d∧d<128)∧l++Qil d u.toNat=QbO n
theorem QyS{l:List Int}{n d u:Int}(g:Q1 n)(h:QyR n l d u):l.length+1≤10:=by
 have s:=Yv List.length h.2.2;rw[Ym] at s;have w:=Qak g;have r:0<(Qil d u.toNat).length:=by unfold Qil;split<;>simp
 omega
theorem QyT(l:List Int)(d v:Int){i:Int}(h:i=(l.length:Int)):(l++[d]).set i.toNat v=l++[v]:=by
 subst h;rw[Int.toNat_natCast,Jq,Yb (by omega),Jk];rfl
theorem QyU(l:List Int)(d:Int){i:Int}(h:i=(l.length:Int)):(l++[d]).getD i.toNat 0=d:=by
 subst h;rw[Int.toNat_natCast,Yd,YO (by omega),Jk];rfl
theorem QuU{l:List Int}{d:Int}(h:l.length≤100):i64.wrap (((l++[d]).length:Int)-1)=(l.length:Int):=by
 have e:((l++[d]).length:Int)=(l.length:Int)+1:=by simp
 rw[e,w64 (by omega) (by omega)];omega
theorem QDC{l:List Int}{n d u:Int}(h:QyR n l d u)(A:u>0):QyR n (l++[lor .u8 d 128]) (IntKind.u8.wrap (land .u64 u 127)) (shr .u64 u 7):=by
 obtain⟨s,r,w⟩:=h;have a1:lor .u8 d 128=d+128:=by rw[QpZ _ r.1 (by omega)];omega
 have a2:IntKind.u8.wrap (land .u64 u 127)=((u.toNat%128:Nat):Int):=by rw[QnL s,wu8];omega
 have a3:(shr .u64 u 7).toNat=u.toNat/128:=by rw[Qcf];omega
 refine⟨by rw[Qcf];omega,by rw[a2];omega,?_⟩;rw[a1,a2,a3,←w,QyO (u:=u.toNat) (d:=d) (by omega),Yy];rfl
theorem QyV{l:List Int}{n d u:Int}(h:QyR n l d u)(A:¬u>0):l++[d]=QbO n:=by
 obtain⟨s,r,w⟩:=h;rw[←w,Qil,Yf (by omega)]
theorem QGD{l:List Int}{d:Int}(h:l.length≤100):(l++[d]).set (i64.wrap (((l++[d]).length:Int)-1)).toNat (lor .u8 ((l++[d]).getD (i64.wrap (((l++[d]).length:Int)-1)).toNat 0) 128)=l++[lor .u8 d 128]:=by
 rw[QyU l d (QuU h),QyT l d _ (QuU h)]
theorem Qjx{n U:Int}{b:Nat}(hb:b<2)(hU:0≤U∧U<9223372036854775808)(he:zig n=2*U.toNat+b):QyR n [] (U%64*2+b) (U/64):=by
 refine⟨by omega,by omega,?_⟩;show Qil _ _=Qmp _;have e1:U%64*2+(b:Int)=((U.toNat%64*2+b:Nat):Int):=by omega
 have e2:(U/64).toNat=U.toNat/64:=by omega
 rw[he,←QnJ U.toNat b hb,e1,e2]
theorem QyW{n:Int}(g:Q1 n)(h:¬n<0):QyR n [] (shl .u8 (IntKind.u8.wrap (land .u64 (IntKind.u64.wrap n) 63)) 1) (shr .u64 (IntKind.u64.wrap n) 6):=by
 unfold Q1 at g;have e:IntKind.u64.wrap n=n:=by rw[QGx];omega
 have a1:shl .u8 (IntKind.u8.wrap (land .u64 (IntKind.u64.wrap n) 63)) 1=n%64*2+((0:Nat):Int):=by rw[e,Qjw (by omega),wu8,QuS];omega
 rw[a1,e,QpX];exact Qjx (by decide) (by omega) (by unfold zig;rw[Yb h];omega)
theorem QyX{n:Int}(g:Q1 n)(h:n<0):QyR n [] (IntKind.u8.wrap (shl .u8 (IntKind.u8.wrap (land .u64 (IntKind.u64.wrap (i64.wrap (0-i64.wrap (n+1)))) 63)) 1+1)) (shr .u64 (IntKind.u64.wrap (i64.wrap (0-i64.wrap (n+1)))) 6):=by
 unfold Q1 at g
 have e:IntKind.u64.wrap (i64.wrap (0-i64.wrap (n+1)))=-n-1:=by
  rw[w64 (x:=n+1) (by omega) (by omega),w64 (by omega) (by omega),QGx];omega
 have a1:IntKind.u8.wrap (shl .u8 (IntKind.u8.wrap (land .u64 (IntKind.u64.wrap (i64.wrap (0-i64.wrap (n+1)))) 63)) 1+1)=(-n-1)%64*2+((1:Nat):Int):=by rw[e,Qjw (by omega),wu8,wu8,QuS];omega
 rw[a1,e,QpX];exact Qjx (by decide) (by omega) (by unfold zig;rw[Yf h];omega)
def QGE:PSpec:=⟨[gi],fun(n,_)=>(some (Q1 n),.cell (.own 0),[.arr (.int .u8) (QbO n)])⟩
theorem QDD:G0 121 QGE.spec:=by
 have m:S0 _:=(Qb (T:=tree))
 have p:=tabs m Qc;refine QGE.gd p m Tryz.func121 fun(n:Int) t=>?_
 have g:Q1 n:=t _ rfl;clear t;have B:=g;unfold Q1 at B
 repeat' first|(apply Ea;conv=>whnf)|apply Eb|apply Ec|apply Ed|apply Ee|(apply Ei;intro _)|apply Ef p m
 all_goals first
  |exact Ya rfl
  |skip
 all_goals first
  |(exfalso;simp_all;done)
  |refine Q4 p m (X:=List Int×Int×Int) (fun(l,d,u)=>St.mk (E3 ((.cell (.own 0))::(.cell (iv .u64 u))::E40 (E3 []))) [some (.arr (.int .u8) (l++[d]))]) (fun(l,d,u)=>QyR n l d u) (fun(l,d,u)=>u.toNat) ([],shl .u8 (IntKind.u8.wrap (land .u64 (IntKind.u64.wrap n) 63)) 1,shr .u64 (IntKind.u64.wrap n) 6) (Le.mk [] [1] R R (by exact rfl) (by repeat' constructor)) (QyW g (by assumption)) fun(l,d,u) j=>?_
  |refine Q4 p m (X:=List Int×Int×Int) (fun(l,d,u)=>St.mk (E3 ((.cell (.own 0))::(.cell (iv .u64 u))::E40 (E3 []))) [some (.arr (.int .u8) (l++[d]))]) (fun(l,d,u)=>QyR n l d u) (fun(l,d,u)=>u.toNat) ([],IntKind.u8.wrap (shl .u8 (IntKind.u8.wrap (land .u64 (IntKind.u64.wrap (i64.wrap (0-i64.wrap (n+1)))) 63)) 1+1),shr .u64 (IntKind.u64.wrap (i64.wrap (0-i64.wrap (n+1)))) 6) (Le.mk [] [1] R R (by exact rfl) (by repeat' constructor)) (QyX g (by assumption)) fun(l,d,u) j=>?_
 all_goals
  have q:=QyS g j;have y:=QuU (l:=l) (d:=d) (by omega)
  repeat' first|(apply Ea;conv=>whnf)|apply Eb|apply Ec|apply Ed|apply Ee|(apply Ei;intro _)|apply Ef p m
 all_goals
  have C:(l++[d]).length=l.length+1:=by simp
 all_goals first
  |exact Ya rfl
  |(show 0≤i64.wrap (((l++[d]).length:Int)-1)∧i64.wrap (((l++[d]).length:Int)-1)<(((l++[d]).length:Nat):Int)
    rw[y,C];omega)
  |(show(i64.wrap (((l++[d]).length:Int)-1)).toNat<(l++[d]).length
    rw[y,C];omega)
  |(rw[YH]
    show((l++[d]).length+1)*1≤140737488355328
    rw[C];omega)
  |(rename_i h
    have h:u>0:=h;apply Yw (l++[lor .u8 d 128],IntKind.u8.wrap (land .u64 u 127),shr .u64 u 7);refine Yo ?_ (Yo ?_ (Le.mk [] [2] R R ?hh ?ht))
    case hh=>exact Qim (Yv (·++[IntKind.u8.wrap (land .u64 u 127)]) (QGD (by omega)))
    case ht=>repeat' constructor
    ·exact QDC j h
    ·show(shr .u64 u 7).toNat<u.toNat
     rw[Qcf];omega)
  |(rename_i h
    exact .mk [] [0] _ R R R R R (Qim (QyV j h)) rfl)
  |skip
theorem QaB{l:List Int}{k:Nat}(h:k<l.length):l.getD k 0∈l:=by
 rw[Yd,Ye h];exact YW h
theorem QbQ{l:List Int}{k:Nat}(h:k<l.length):Qz (l.take (k+1))=Qz (l.take k)++QbO (l.getD k 0):=by
 rw[Je,QdF,Yd,Ye h];simp[Qz]
theorem Qag{l:List Int}(h:∀n∈l,Q1 n)(k:Nat):(Qz (l.take k)).length≤10*l.length:=by
 have e:=QbP (l:=l.take k) fun n hn=>h n (Jo hn)
 have s:(l.take k).length≤l.length:=by rw[Yq];omega
 omega
inductive AddX where
 |N0 (l:List Int)
 |O1 (l o:List Int)
 |R1 (l o:List Int)
def AddX.l:AddX→List Int
 |.N0 l=>l
 |.O1 l _=>l
 |.R1 l _=>l
def AddX.out:AddX→List Int
 |.N0 _=>[]
 |.O1 _ o=>o
 |.R1 _ o=>o
def QDE:List V1→List Blk→Option AddX:=fun a b=>match a,b with
 | [.c (.own 0),.c (.ptr 1 0)],[.arr (.int .i64) l,.var [.imm (.slice none 0 0)]]=>some (.N0 l)
 | [.c (.own 0),.c (.ptr 1 0)],[.arr (.int .i64) l,.var [.own 2],.arr (.int .u8) o]=>some (.O1 l o)
 | [.c (.ro (.int .i64) l),.c (.ptr 0 0)],[.var [.own 1],.arr (.int .u8) o]=>some (.R1 l o)
 |_,_=>none
def QuV:AddX→List V1
 |.N0 l=>[.c (.own 0),.c (.ptr 1 0)]
 |.O1 l o=>[.c (.own 0),.c (.ptr 1 0)]
 |.R1 l o=>[.c (.ro (.int .i64) l),.c (.ptr 0 0)]
def QGF:AddX→List Blk
 |.N0 l=>[.arr (.int .i64) l,.var [.imm (.slice none 0 0)]]
 |.O1 l o=>[.arr (.int .i64) l,.var [.own 2],.arr (.int .u8) o]
 |.R1 l o=>[.var [.own 1],.arr (.int .u8) o]
theorem QyY{a:List V1}{b:List Blk}{x:AddX}(h:QDE a b=some x):a=QuV x∧b=QGF x:=by
 unfold QDE at h;split at h
 ·injection h with h;subst h;exact⟨rfl,rfl⟩
 ·injection h with h;subst h;exact⟨rfl,rfl⟩
 ·injection h with h;subst h;exact⟨rfl,rfl⟩
 ·cases h
def QDF(x:AddX):Prop:=(∀n∈x.l,Q1 n)∧x.out.length+10*x.l.length≤35184372088832
def QGG(x:AddX):Option Prop×AV×List (Option Blk)×List Blk:=match x with
 |.N0 l=>match l with
  | []=>(some (QDF x),.tup [],[some (.arr (.int .i64) l),some (.var [.imm (.slice none 0 0)])],[])
  |_::_=>(some (QDF x),.tup [],[some (.arr (.int .i64) l),some (.var [.own 2])],[.arr (.int .u8) (Qz l)])
 |.O1 l o=>match l with
  | []=>(some (QDF x),.tup [],[some (.arr (.int .i64) l),some (.var [.own 2]),some (.arr (.int .u8) o)],[])
  |_::_=>(some (QDF x),.tup [],[some (.arr (.int .i64) l),some (.var [.own 3]),none],[.arr (.int .u8) (o++Qz l)])
 |.R1 l o=>match l with
  | []=>(some (QDF x),.tup [],[some (.var [.own 1]),some (.arr (.int .u8) o)],[])
  |_::_=>(some (QDF x),.tup [],[some (.var [.own 2]),none],[.arr (.int .u8) (o++Qz l)])
def QGH:WSpec:=⟨AddX,QuV,QGF,QDE,QGG⟩
def QuW:AddX→Bool×Int×List Int→St:=fun x (f,i,o')=>match x with
 |.N0 l=>match f with
  |true=>St.mk (E1 ((.cell (.ptr 1 0))::E3 ((.cell (.own 0))::(I (l.length:Int))::(I i)::E5 (E3 [])))) [some (.arr (.int .i64) l),some (.var [.imm (.slice none 0 0)])]
  |false=>St.mk (E1 ((.cell (.ptr 1 0))::E3 ((.cell (.own 0))::(I (l.length:Int))::(I i)::E5 (E3 [])))) [some (.arr (.int .i64) l),some (.var [.own 2]),some (.arr (.int .u8) o')]
 |.O1 l o=>match f with
  |true=>St.mk (E1 ((.cell (.ptr 1 0))::E3 ((.cell (.own 0))::(I (l.length:Int))::(I i)::E5 (E3 [])))) [some (.arr (.int .i64) l),some (.var [.own 2]),some (.arr (.int .u8) o')]
  |false=>St.mk (E1 ((.cell (.ptr 1 0))::E3 ((.cell (.own 0))::(I (l.length:Int))::(I i)::E5 (E3 [])))) [some (.arr (.int .i64) l),some (.var [.own 3]),none,some (.arr (.int .u8) o')]
 |.R1 l o=>match f with
  |true=>St.mk (E1 ((.cell (.ptr 0 0))::E3 ((.cell (.ro (.int .i64) l))::(I (l.length:Int))::(I i)::E5 (E3 [])))) [some (.var [.own 1]),some (.arr (.int .u8) o')]
  |false=>St.mk (E1 ((.cell (.ptr 0 0))::E3 ((.cell (.ro (.int .i64) l))::(I (l.length:Int))::(I i)::E5 (E3 [])))) [some (.var [.own 2]),none,some (.arr (.int .u8) o')]
def QIE(x:AddX):Bool×Int×List Int→Prop:=fun(f,i,o')=>∃k:Nat,i=k∧k≤x.l.length∧o'=x.out++Qz (x.l.take k)∧(f=true↔k=0)
def QKF(x:AddX):Bool×Int×List Int→Nat:=fun(f,i,o')=>((x.l.length:Int)-i).toNat
theorem Qgu{x:AddX}{f:Bool}{k:Nat}{o':List Int}(g:k<x.l.length)(d:o'=x.out++Qz (x.l.take k))(hl:k≤4611686018427387904):QIE x (false,i64.wrap ((k:Int)+1),o'++QbO (x.l.getD k 0)) :=
 ⟨k+1,QJ hl,g,by rw[d,QbQ g,Yy],by simp⟩
theorem QyZ:G0 120 QGH.spec:=by
 have j:S0 _:=Qa QDD (Qb (T:=tree));have m:=tabs j Qc;refine QGH.gd m j Tryz.func120 (fun _ _ _ h=>QyY h) fun(x:AddX) y=>?_
 have hp:QDF x:=by
  cases x with
  |N0 l=>cases l<;>exact y _ rfl
  |O1 l o=>cases l<;>exact y _ rfl
  |R1 l o=>cases l<;>exact y _ rfl
 clear y;obtain⟨e,s⟩:=hp;cases x with
 |N0 l =>
  have e:∀n∈l,Q1 n:=e;have s:([]:List Int).length+10*l.length≤35184372088832:=s
  repeat' first|(apply Ea;conv=>whnf)|apply Eb|apply Ec|apply Ed|apply Ee|(apply Ei;intro _)|apply Ef m j
  all_goals first
   |exact Ya rfl
   |skip
  refine Q4 m j (X:=Bool×Int×List Int) (QuW (.N0 l)) (QIE (.N0 l)) (QKF (.N0 l)) (true,0,([]:List Int)) (Le.k [] [0,1] ?_) ?_ fun(f,i,o') w=>?_
  ·repeat' constructor
  ·exact⟨0,rfl,YR _,by simp[Qz,AddX.out],by simp⟩
  obtain⟨k,rfl,g,d,q⟩:=w;have g:k≤l.length:=g;have d:o'=([]:List Int)++Qz (l.take k):=d;have u:o'.length≤([]:List Int).length+10*l.length:=by rw[d,Ym];have:=Qag e k;omega
  cases f with
  |true =>
   obtain rfl:k=0:=q.1 rfl;have p:o'=([]:List Int):=by rw[d];simp[Qz]
   repeat' first|(apply Ea;conv=>whnf)|apply Eb|apply Ec|apply Ed|apply Ee|(apply Ei;intro _)|apply Ef m j
   all_goals first
    |exact Ya rfl
    |(show 0≤((0:Nat):Int)∧((0:Nat):Int)<(l.length:Int)
      omega)
    |(show(((0:Nat):Int)).toNat<l.length
      omega)
    |(rename_i h
      have h:((0:Nat):Int)<(l.length:Int):=h
      exact e _ (QaB (k:=0) (by omega)))
    |(rename_i h
      have h:((0:Nat):Int)<(l.length:Int):=h;have t:=Qak (e _ (QaB (k:=0) (by omega)));show((QbO (l.getD 0 0)).length)*1≤140737488355328
      omega)
    |(rename_i h
      have h:((0:Nat):Int)<(l.length:Int):=h;apply Yw (false,_,_);refine Yo ?_ (Yo ?_ (Le.k [] [0,1,3] ?hh))
      case hh=>repeat' constructor
      ·exact Qgu (x:=.N0 l) (f:=true) (k:=0) (o':=[]) (by show 0<l.length;omega) (by simp[Qz,AddX.out]) (by omega)
      ·show((l.length:Int)-i64.wrap (((0:Nat):Int)+1)).toNat<((l.length:Int)-((0:Nat):Int)).toNat
       rw[QJ (by omega)];omega)
    |(rename_i h
      have h:¬((0:Nat):Int)<(l.length:Int):=h;obtain rfl:l=[]:=Yr (by omega);subst p
      exact .k [] [0,1] _ R R)
    |skip
  |false =>
   repeat' first|(apply Ea;conv=>whnf)|apply Eb|apply Ec|apply Ed|apply Ee|(apply Ei;intro _)|apply Ef m j
   all_goals first
    |exact Ya rfl
    |(show 0≤(k:Int)∧(k:Int)<(l.length:Int)
      omega)
    |(show((k:Int)).toNat<l.length
      omega)
    |(rename_i h
      have h:(k:Int)<(l.length:Int):=h
      exact e _ (QaB (k:=k) (by omega)))
    |(rename_i h
      have h:(k:Int)<(l.length:Int):=h;have t:=Qak (e _ (QaB (k:=k) (by omega)));show(o'.length+(QbO (l.getD k 0)).length)*1≤140737488355328
      omega)
    |(rename_i h
      have h:(k:Int)<(l.length:Int):=h;apply Yw (false,_,_);refine Yo ?_ (Yo ?_ (Le.k [] [0,1,4] ?hh))
      case hh=>repeat' constructor
      ·exact Qgu (x:=.N0 l) (f:=false) (k:=k) (by show k<l.length;omega) d (by omega)
      ·show((l.length:Int)-i64.wrap ((k:Int)+1)).toNat<((l.length:Int)-(k:Int)).toNat
       rw[QJ (by omega)];omega)
    |(rename_i h
      have h:¬(k:Int)<(l.length:Int):=h;rw[Yh (by omega)] at d;subst d;cases l with
      |nil=>exact YD (q.2 (by simp at g;omega)) (by decide)
      |cons a r=>exact .k [] [0,1,2] _ R R)
    |skip
 |O1 l o =>
  have e:∀n∈l,Q1 n:=e;have s:o.length+10*l.length≤35184372088832:=s
  repeat' first|(apply Ea;conv=>whnf)|apply Eb|apply Ec|apply Ed|apply Ee|(apply Ei;intro _)|apply Ef m j
  all_goals first
   |exact Ya rfl
   |skip
  refine Q4 m j (X:=Bool×Int×List Int) (QuW (.O1 l o)) (QIE (.O1 l o)) (QKF (.O1 l o)) (true,0,o) (Le.k [] [0,1,2] ?_) ?_ fun(f,i,o') w=>?_
  ·repeat' constructor
  ·exact⟨0,rfl,YR _,by simp[Qz,AddX.out],by simp⟩
  obtain⟨k,rfl,g,d,q⟩:=w;have g:k≤l.length:=g;have d:o'=o++Qz (l.take k):=d;have u:o'.length≤o.length+10*l.length:=by rw[d,Ym];have:=Qag e k;omega
  cases f with
  |true =>
   obtain rfl:k=0:=q.1 rfl;have p:o'=o:=by rw[d];simp[Qz]
   repeat' first|(apply Ea;conv=>whnf)|apply Eb|apply Ec|apply Ed|apply Ee|(apply Ei;intro _)|apply Ef m j
   all_goals first
    |exact Ya rfl
    |(show 0≤((0:Nat):Int)∧((0:Nat):Int)<(l.length:Int)
      omega)
    |(show(((0:Nat):Int)).toNat<l.length
      omega)
    |(rename_i h
      have h:((0:Nat):Int)<(l.length:Int):=h
      exact e _ (QaB (k:=0) (by omega)))
    |(rename_i h
      have h:((0:Nat):Int)<(l.length:Int):=h;have t:=Qak (e _ (QaB (k:=0) (by omega)));show(o'.length+(QbO (l.getD 0 0)).length)*1≤140737488355328
      omega)
    |(rename_i h
      have h:((0:Nat):Int)<(l.length:Int):=h;apply Yw (false,_,_);refine Yo ?_ (Yo ?_ (Le.k [] [0,1,2,4] ?hh))
      case hh=>repeat' constructor
      ·exact Qgu (x:=.O1 l o) (f:=true) (k:=0) (by show 0<l.length;omega) d (by omega)
      ·show((l.length:Int)-i64.wrap (((0:Nat):Int)+1)).toNat<((l.length:Int)-((0:Nat):Int)).toNat
       rw[QJ (by omega)];omega)
    |(rename_i h
      have h:¬((0:Nat):Int)<(l.length:Int):=h;obtain rfl:l=[]:=Yr (by omega);subst p
      exact .k [] [0,1,2] _ R R)
    |skip
  |false =>
   repeat' first|(apply Ea;conv=>whnf)|apply Eb|apply Ec|apply Ed|apply Ee|(apply Ei;intro _)|apply Ef m j
   all_goals first
    |exact Ya rfl
    |(show 0≤(k:Int)∧(k:Int)<(l.length:Int)
      omega)
    |(show((k:Int)).toNat<l.length
      omega)
    |(rename_i h
      have h:(k:Int)<(l.length:Int):=h
      exact e _ (QaB (k:=k) (by omega)))
    |(rename_i h
      have h:(k:Int)<(l.length:Int):=h;have t:=Qak (e _ (QaB (k:=k) (by omega)));show(o'.length+(QbO (l.getD k 0)).length)*1≤140737488355328
      omega)
    |(rename_i h
      have h:(k:Int)<(l.length:Int):=h;apply Yw (false,_,_);refine Yo ?_ (Yo ?_ (Le.k [] [0,1,2,5] ?hh))
      case hh=>repeat' constructor
      ·exact Qgu (x:=.O1 l o) (f:=false) (k:=k) (by show k<l.length;omega) d (by omega)
      ·show((l.length:Int)-i64.wrap ((k:Int)+1)).toNat<((l.length:Int)-(k:Int)).toNat
       rw[QJ (by omega)];omega)
    |(rename_i h
      have h:¬(k:Int)<(l.length:Int):=h;rw[Yh (by omega)] at d;subst d;cases l with
      |nil=>exact YD (q.2 (by simp at g;omega)) (by decide)
      |cons a r=>exact .k [] [0,1,2,3] _ R R)
    |skip
 |R1 l o =>
  have e:∀n∈l,Q1 n:=e;have s:o.length+10*l.length≤35184372088832:=s
  repeat' first|(apply Ea;conv=>whnf)|apply Eb|apply Ec|apply Ed|apply Ee|(apply Ei;intro _)|apply Ef m j
  all_goals first
   |exact Ya rfl
   |skip
  refine Q4 m j (X:=Bool×Int×List Int) (QuW (.R1 l o)) (QIE (.R1 l o)) (QKF (.R1 l o)) (true,0,o) (Le.k [] [0,1] ?_) ?_ fun(f,i,o') w=>?_
  ·repeat' constructor
  ·exact⟨0,rfl,YR _,by simp[Qz,AddX.out],by simp⟩
  obtain⟨k,rfl,g,d,q⟩:=w;have g:k≤l.length:=g;have d:o'=o++Qz (l.take k):=d;have u:o'.length≤o.length+10*l.length:=by rw[d,Ym];have:=Qag e k;omega
  cases f with
  |true =>
   obtain rfl:k=0:=q.1 rfl;have p:o'=o:=by rw[d];simp[Qz]
   repeat' first|(apply Ea;conv=>whnf)|apply Eb|apply Ec|apply Ed|apply Ee|(apply Ei;intro _)|apply Ef m j
   all_goals first
    |exact Ya rfl
    |(show 0≤((0:Nat):Int)∧((0:Nat):Int)<(l.length:Int)
      omega)
    |(show(((0:Nat):Int)).toNat<l.length
      omega)
    |(rename_i h
      have h:((0:Nat):Int)<(l.length:Int):=h
      exact e _ (QaB (k:=0) (by omega)))
    |(rename_i h
      have h:((0:Nat):Int)<(l.length:Int):=h;have t:=Qak (e _ (QaB (k:=0) (by omega)));show(o'.length+(QbO (l.getD 0 0)).length)*1≤140737488355328
      omega)
    |(rename_i h
      have h:((0:Nat):Int)<(l.length:Int):=h;apply Yw (false,_,_);refine Yo ?_ (Yo ?_ (Le.k [] [0,1,3] ?hh))
      case hh=>repeat' constructor
      ·exact Qgu (x:=.R1 l o) (f:=true) (k:=0) (by show 0<l.length;omega) d (by omega)
      ·show((l.length:Int)-i64.wrap (((0:Nat):Int)+1)).toNat<((l.length:Int)-((0:Nat):Int)).toNat
       rw[QJ (by omega)];omega)
    |(rename_i h
      have h:¬((0:Nat):Int)<(l.length:Int):=h;obtain rfl:l=[]:=Yr (by omega);subst p
      exact .k [] [0,1] _ R R)
    |skip
  |false =>
   repeat' first|(apply Ea;conv=>whnf)|apply Eb|apply Ec|apply Ed|apply Ee|(apply Ei;intro _)|apply Ef m j
   all_goals first
    |exact Ya rfl
    |(show 0≤(k:Int)∧(k:Int)<(l.length:Int)
      omega)
    |(show((k:Int)).toNat<l.length
      omega)
    |(rename_i h
      have h:(k:Int)<(l.length:Int):=h
      exact e _ (QaB (k:=k) (by omega)))
    |(rename_i h
      have h:(k:Int)<(l.length:Int):=h;have t:=Qak (e _ (QaB (k:=k) (by omega)));show(o'.length+(QbO (l.getD k 0)).length)*1≤140737488355328
      omega)
    |(rename_i h
      have h:(k:Int)<(l.length:Int):=h;apply Yw (false,_,_);refine Yo ?_ (Yo ?_ (Le.k [] [0,1,4] ?hh))
      case hh=>repeat' constructor
      ·exact Qgu (x:=.R1 l o) (f:=false) (k:=k) (by show k<l.length;omega) d (by omega)
      ·show((l.length:Int)-i64.wrap ((k:Int)+1)).toNat<((l.length:Int)-(k:Int)).toNat
       rw[QJ (by omega)];omega)
    |(rename_i h
      have h:¬(k:Int)<(l.length:Int):=h;rw[Yh (by omega)] at d;subst d;cases l with
      |nil=>exact YD (q.2 (by simp at g;omega)) (by decide)
      |cons a r=>exact .k [] [0,1,2] _ R R)
    |skip
abbrev Qh:Ty:=.pair (.sl (.int .i64)) (.sl (.int .u8))
abbrev Qt:Ty:=.pair (.int .i64) (.pair QDu (.pair (.sl Qh) (.pair (.int .i64) (.pair (.int .i64) (.int .i64)))))
abbrev gM:Sig:=⟨true,Qt⟩
abbrev Mach:=Int×Kor×List Dv×Int×Int×Int
def QeK(m:Mach):List Int:=[m.1]++m.2.1.1++[m.2.1.2.1,m.2.1.2.2.1,cond m.2.1.2.2.2 1 0,m.2.2.2.1,m.2.2.2.2.1,m.2.2.2.2.2,(m.2.2.1.length:Int)]
def QfO(d:Dv):List Int:=QbO (d.1.length:Int)++Qz d.1++QbO (d.2.length:Int)++d.2
def Qmr(m:Mach):List Int:=Qz (QeK m)++m.2.2.1.flatMap QfO
def QaR(d:Dv):Nat:=10*d.1.length+d.2.length+20
def QcY(m:Mach):Prop:=(∀n∈QeK m,Q1 n)∧(∀d∈m.2.2.1,∀n∈d.1,Q1 n)∧m.2.1.1.length=9∧(m.2.2.1.map QaR).sum≤1099511627776
def QBs:PSpec:=⟨[gB],fun(b,_)=>(none,I (cond b 1 0),[])⟩
theorem Qy0:G0 119 QBs.spec:=by
 have j:S0 _:=(Qb (T:=tree))
 have q:=tabs j Qc;refine QBs.gd q j Tryz.func119 fun(b:Bool) _=>?_
 cases b
 all_goals
  repeat' first|(apply Ea;conv=>whnf)|apply Eb|apply Ec|apply Ed|apply Ee|(apply Ei;intro _)|apply Ef q j
 all_goals exact .k [] [] _ R R
theorem Qee(m:Mach)(h:m.2.1.1.length=9):(QeK m).length=17:=by unfold QeK;simp[h]
theorem QnM(l:List Nat)(k:Nat):(l.take k).sum≤l.sum:=by
 have:=List.sum_append_nat (l₁:=l.take k) (l₂:=l.drop k);rw[List.take_append_drop] at this;omega
theorem Qy1{d:Dv}(h:∀n∈d.1,Q1 n)(s:d.1.length≤4611686018427387904)(B:d.2.length≤4611686018427387904):(QfO d).length≤QaR d:=by
 have a1:=QbP h;have a2:=Qak (n:=(d.1.length:Int)) (by unfold Q1;omega);have a3:=Qak (n:=(d.2.length:Int)) (by unfold Q1;omega);unfold QfO QaR;simp only[Ym];omega
theorem Qin{ds:List Dv}{k:Nat}(h:k<ds.length):(ds.take (k+1)).flatMap QfO=(ds.take k).flatMap QfO++QfO (ds.getD k ([],[])):=by
 rw[Je,List.flatMap_append,Yd,Ye h];simp
theorem Qgv{ds:List Dv}{k:Nat}(h:k<ds.length):ds.getD k ([],[])∈ds:=by
 rw[Yd,Ye h];exact YW h
theorem QcN{ds:List Dv}{d:Dv}(h:d∈ds):QaR d≤(ds.map QaR).sum:=by
 induction ds with
 |nil=>cases h
 |cons x r ih =>
  simp only[Jb,List.sum_cons];rcases Yt.1 h with rfl|h
  ·omega
  ·have:=ih h;omega
theorem QfP(ds:List Dv):20*ds.length≤(ds.map QaR).sum:=by
 induction ds with
 |nil=>simp
 |cons x r ih=>simp only[Jb,List.sum_cons,Yx];unfold QaR at *;omega
theorem Qy2{ds:List Dv}(h:∀d∈ds,∀n∈d.1,Q1 n)(F:(ds.map QaR).sum≤1099511627776):(ds.flatMap QfO).length≤(ds.map QaR).sum:=by
 induction ds with
 |nil=>simp
 |cons x r ih =>
  have u:=QcN (YZ (a:=x) (l:=r));have s:QaR x≤1099511627776:=YG u F;unfold QaR at s;have B:=Qy1 (h x (YZ ..)) (by omega) (by omega);simp only[Jb,List.sum_cons] at F;have A:=ih (fun d H=>h d (YP _ H)) (by omega);simp only[List.flatMap_cons,Ym,Jb,List.sum_cons];omega
theorem Qbb{ds:List Dv}(h:∀d∈ds,∀n∈d.1,Q1 n)(F:(ds.map QaR).sum≤1099511627776)(k:Nat):((ds.take k).flatMap QfO).length≤(ds.map QaR).sum:=by
 have e:=QnM (ds.map QaR) k;rw[←List.map_take] at e;exact YG (Qy2 (fun d H=>h d (Jo H)) (by omega)) e
def Qy3:PSpec:=⟨[gM],fun(m,_)=>(some (QcY m),.cell (.own 0),[.arr (.int .u8) (Qmr m)])⟩
theorem QuX:G0 65 Qy3.spec:=by
 have j:S0 _:=Qa Qy0 (Qa QyZ (Qb (T:=tree)));have q:=tabs j Qc;refine Qy3.gd q j Tryz.func65 fun(m:Mach) hq=>?_
 have hp:QcY m:=hq _ rfl;clear hq;obtain⟨tm,⟨r,op,at_,g⟩,ds,bd,C,p⟩:=m;obtain⟨u,s,B,A⟩:=hp;have B:r.length=9:=B
 repeat' first|(apply Ea;conv=>whnf)|apply Eb|apply Ec|apply Ed|apply Ee|(apply Ei;intro _)|apply Ef q j
 all_goals first
  |exact Ya rfl
  |skip
 all_goals
  have u:∀n∈QeK (tm,(r,op,at_,g),ds,bd,C,p),Q1 n:=u;have s:∀d∈ds,∀n∈d.1,Q1 n:=s;have A:(ds.map QaR).sum≤1099511627776:=A;have hH:=Qee (tm,(r,op,at_,g),ds,bd,C,p) B;have J:=QbP u;rw[hH] at J
 ·show(1+r.length)*8≤140737488355328;omega
 ·show(([tm]++r).length+7)*8≤140737488355328;simp;omega
 ·exact⟨u,by show 0+10*(QeK (tm,(r,op,at_,g),ds,bd,C,p)).length≤_;omega⟩
 ·have hds:=QfP ds
  refine QA q j ds.length (fun i (o:List Int)=>St.mk (E3 (E1 ((.cell (.ptr 0 0))::(.cell (.fn 120 [0]))::E40 (E2 ((.cell (.ro Qh ds))::(I (ds.length:Int))::(I i)::E20 (E5 [])))))) [some (.var [.own 1]),some (.arr (.int .u8) o)])
   (fun k o=>o=Qz (QeK (tm,(r,op,at_,g),ds,bd,C,p))++(ds.take k).flatMap QfO) (Qz (QeK (tm,(r,op,at_,g),ds,bd,C,p))) (Le.k [] [6,7] ?_) ?_ fun k o hk y=>?_
  ·repeat' constructor
  ·simp
  repeat' first|(apply Ea;conv=>whnf)|apply Eb|apply Ec|apply Ed|apply Ee|(apply Ei;intro _)|apply Ef q j
  all_goals first
   |exact Ya rfl
   |skip
  ·rename_i c;have c:(k:Int)<(ds.length:Int):=c;show 0≤(k:Int)∧(k:Int)<(ds.length:Int);omega
  ·rename_i c;have c:(k:Int)<(ds.length:Int):=c;have E:List.getD (α:=Den Qh) ds ((k:Int)).toNat (dflt Qh)∈ds:=Qgv (by omega)
   have G:o.length≤170+(ds.map QaR).sum:=by
    rw[y,Ym];have:=Qbb s A k;omega
   have w:=QcN E;generalize List.getD (α:=Den Qh) ds ((k:Int)).toNat (dflt Qh)=D at *;obtain⟨N,M⟩:=D;have w:10*N.length+M.length+20≤(ds.map QaR).sum:=w;refine⟨fun n f=>?_,?_⟩
   ·have f:n∈[((N.length:Nat):Int)]:=f;rw[Jl] at f;subst f;unfold Q1;omega
   ·show o.length+10*1≤35184372088832;omega
  ·rename_i c;have c:(k:Int)<(ds.length:Int):=c;have E:List.getD (α:=Den Qh) ds ((k:Int)).toNat (dflt Qh)∈ds:=Qgv (by omega);have z:(ds.take (k+1)).flatMap QfO=(ds.take k).flatMap QfO++QfO (List.getD (α:=Den Qh) ds ((k:Int)).toNat (dflt Qh)):=Qin (by omega)
   have G:o.length≤170+(ds.map QaR).sum:=by
    rw[y,Ym];have:=Qbb s A k;omega
   generalize List.getD (α:=Den Qh) ds ((k:Int)).toNat (dflt Qh)=D at *;have t:=s D E;have w:=QcN E;obtain⟨N,M⟩:=D;have t:∀n∈N,Q1 n:=t;have w:10*N.length+M.length+20≤(ds.map QaR).sum:=w;cases N with
   |nil =>
    conv=>whnf
    repeat' first|(apply Ea;conv=>whnf)|apply Eb|apply Ec|apply Ed|apply Ee|(apply Ei;intro _)|apply Ef q j
    all_goals
     have eN:=Qak (n:=(((([]:List Int)).length:Nat):Int)) (by unfold Q1;omega);have eM:=Qak (n:=((M.length:Nat):Int)) (by unfold Q1;omega);have eA:=QbP t
    all_goals first
     |exact Ya rfl
     |(refine⟨t,?_⟩
       show(o++(QbO (((([]:List Int)).length:Nat):Int)++[])).length+10*(([]:List Int)).length≤35184372088832
       simp only[Ym,YU];first|omega|(simp only[YU] at eN;omega))
     |(refine⟨fun n f=>?_,?_⟩
       ·have f:n∈[((M.length:Nat):Int)]:=f;rw[Jl] at f;subst f;unfold Q1;omega
       ·show(o++(QbO (((([]:List Int)).length:Nat):Int)++[])).length+10*1≤35184372088832
        simp only[Ym,YU];first|omega|(simp only[YU] at eN;omega))
     |(show((o++(QbO (((([]:List Int)).length:Nat):Int)++[])++(QbO ((M.length:Nat):Int)++[])).length+M.length)*1≤140737488355328
       simp only[Ym,YU];first|omega|(simp only[YU] at eN;omega))
     |skip
    apply Ex _ [] [0,7]
    ·repeat' constructor
    ·omega
    ·exact QJ (by omega)
    ·show o++(QbO (((([]:List Int)).length:Nat):Int)++[])++(QbO ((M.length:Nat):Int)++[])++M=_;rw[z,y];simp[QfO,Qz]
   |cons a N' =>
    conv=>whnf
    repeat' first|(apply Ea;conv=>whnf)|apply Eb|apply Ec|apply Ed|apply Ee|(apply Ei;intro _)|apply Ef q j
    all_goals
     have eN:=Qak (n:=(((a::N').length:Nat):Int)) (by unfold Q1;omega);have eM:=Qak (n:=((M.length:Nat):Int)) (by unfold Q1;omega);have eA:=QbP t
    all_goals first
     |exact Ya rfl
     |(refine⟨t,?_⟩
       show(o++(QbO (((a::N').length:Nat):Int)++[])).length+10*(a::N').length≤35184372088832
       simp only[Ym,YU];first|omega|(simp only[YU] at eN;omega))
     |(refine⟨fun n f=>?_,?_⟩
       ·have f:n∈[((M.length:Nat):Int)]:=f;rw[Jl] at f;subst f;unfold Q1;omega
       ·show(o++(QbO (((a::N').length:Nat):Int)++[])++Qz (a::N')).length+10*1≤35184372088832
        simp only[Ym,YU];first|omega|(simp only[YU] at eN;omega))
     |(show((o++(QbO (((a::N').length:Nat):Int)++[])++Qz (a::N')++(QbO ((M.length:Nat):Int)++[])).length+M.length)*1≤140737488355328
       simp only[Ym,YU];first|omega|(simp only[YU] at eN;omega))
     |skip
    apply Ex _ [] [0,8]
    ·repeat' constructor
    ·omega
    ·exact QJ (by omega)
    ·show o++(QbO (((a::N').length:Nat):Int)++[])++Qz (a::N')++(QbO ((M.length:Nat):Int)++[])++M=_;rw[z,y];simp[QfO,Qz]
  ·rename_i c;have c:¬(k:Int)<(ds.length:Int):=c;refine .mk [] [1] _ R R R R R (Qim ?_) rfl;rw[y,Yh (by omega)];rfl
def QBD:PSpec:=⟨[⟨false,.sl (Qh)⟩],fun(l,_)=>(some (List.length l*48≤140737488351232),.cell (.own 0),[.arr (Qh) l])⟩
theorem Qqi:G0 71 QBD.spec:=by
 have a:S0 _:=(Qb (T:=tree))
 have c:=tabs a Qc;refine QBD.gd c a Tryz.func71 fun(l:List (Den (Qh))) b=>?_
 have hl:l.length*48≤140737488351232:=b _ rfl;clear b
 repeat' first|(apply Ea;conv=>whnf)|apply Eb|apply Ec|apply Ed|apply Ee|(apply Ei;intro _)|apply Ef c a
 all_goals first
  |exact Ya rfl
  |skip
 ·rename_i h;obtain rfl:l=[]:=Yr h;exact .le (Le.nil 2 (Qh) rfl) (.k [] [0] _ R R)
 ·show(0+l.length)*48≤140737488355328;omega
 ·exact .k [] [1] _ R R
def QBE:PSpec:=⟨[⟨false,.sl (.int .i64)⟩],fun(l,_)=>(some (List.length l*8≤140737488351232),.cell (.own 0),[.arr (.int .i64) l])⟩
theorem Qzs:G0 128 QBE.spec:=by
 have a:S0 _:=(Qb (T:=tree))
 have c:=tabs a Qc;refine QBE.gd c a Tryz.func128 fun(l:List (Den (.int .i64))) b=>?_
 have hl:l.length*8≤140737488351232:=b _ rfl;clear b
 repeat' first|(apply Ea;conv=>whnf)|apply Eb|apply Ec|apply Ed|apply Ee|(apply Ei;intro _)|apply Ef c a
 all_goals first
  |exact Ya rfl
  |skip
 ·rename_i h;obtain rfl:l=[]:=Yr h;exact .le (Le.nil 2 (.int .i64) rfl) (.k [] [0] _ R R)
 ·show(0+l.length)*8≤140737488355328;omega
 ·exact .k [] [1] _ R R
def QvC:PSpec:=⟨[⟨false,.sl (.int .u8)⟩],fun(l,_)=>(some (List.length l*1≤140737488351232),.cell (.own 0),[.arr (.int .u8) l])⟩
theorem QvD:G0 129 QvC.spec:=by
 have a:S0 _:=(Qb (T:=tree))
 have c:=tabs a Qc;refine QvC.gd c a Tryz.func129 fun(l:List (Den (.int .u8))) b=>?_
 have hl:l.length*1≤140737488351232:=b _ rfl;clear b
 repeat' first|(apply Ea;conv=>whnf)|apply Eb|apply Ec|apply Ed|apply Ee|(apply Ei;intro _)|apply Ef c a
 all_goals first
  |exact Ya rfl
  |skip
 ·rename_i h;obtain rfl:l=[]:=Yr h;exact .le (Le.nil 2 (.int .u8) rfl) (.k [] [0] _ R R)
 ·show(0+l.length)*1≤140737488355328;omega
 ·exact .k [] [1] _ R R
def QBQ:ByteArray:=⟨#[46]⟩
def QbZ(s:ByteArray):Int:=Lib.indexByte s.data.toList 46
def Qwf:PSpec:=⟨[Qyz,Qyz],fun(s,p,_)=>(some (p=QBQ),I (QbZ s),[])⟩
theorem Qwg:G0 263 Qwf.spec:=by
 have a:S0 _:=Qa QuJ (Qb (T:=tree));have d:=tabs a Qc;refine Qwf.gd d a Tryz.func263 fun(s p:ByteArray) b=>?_
 obtain rfl:p=QBQ:=b _ rfl;clear b
 repeat' first|(apply Ea;conv=>whnf)|apply Eb|apply Ec|apply Ed|apply Ee|(apply Ei;intro _)|apply Ef d a
 ·rename_i g;have g:Qm QBQ s=true:=g;have e:QBQ=s:=(Lib.bytes_beq_iff _ _).1 g;subst e;refine .k [] [] _ rfl (Qd ?_);show 0=QbZ QBQ;decide +kernel
 ·exact Ya rfl
 ·exact .k [] [] _ R R
theorem QiH(c:UInt8):∀l:List UInt8,Lib.indexByte l c=-1∨(0≤Lib.indexByte l c∧Lib.indexByte l c<l.length)
 | []=>.inl rfl
 |x::r=>by
  have ih:=QiH c r;have i:(x::r).length=r.length+1:=rfl;unfold Lib.indexByte;by_cases h1:(x==c)=true
  ·rw[Yf h1,i];right;omega
  ·rw[Yb h1];by_cases j:(Lib.indexByte r c == -1)=true
   ·rw[Yf j];exact .inl rfl
   ·rw[Yb j,i];have h3:Lib.indexByte r c≠-1:=fun h=>j (beq_iff_eq.2 h)
    right;omega
theorem QiI{s:ByteArray}(h:QbZ s≥0):QbZ s<s.size:=by
 have:=QiH 46 s.data.toList;have e:s.data.toList.length=s.size:=Array.length_toList;unfold QbZ at *;omega
def QdQ(s:ByteArray):ByteArray:=if 0≤QbZ s then s.extract 0 (QbZ s).toNat else s
def cutA(s:ByteArray):ByteArray:=if 0≤QbZ s then s.extract (QbZ s+1).toNat s.size else ⟨#[]⟩
def QI1:PSpec:=⟨[Qyz,Qyz],fun(s,p,_)=>(some (p=QBQ∧s.size≤140737488351232),.tup [.c (.imm (.string (QdQ s))),.c (.imm (.string (cutA s))),.c (bv (decide (0≤QbZ s)))],[])⟩
theorem QzV:G0 240 QI1.spec:=by
 have a:S0 _:=Qa Qwg (Qb (T:=tree));have d:=tabs a Qc;refine QI1.gd d a Tryz.func240 fun(s p:ByteArray) b=>?_
 obtain⟨f,i⟩:p=QBQ∧s.size≤140737488351232:=b _ rfl;clear b;subst f
 repeat' first|(apply Ea;conv=>whnf)|apply Eb|apply Ec|apply Ed|apply Ee|(apply Ei;intro _)|apply Ef d a
 ·exact rfl
 ·rename_i g;have g:QbZ s≥0:=g;have:=QiI g;show 0≤QbZ s∧QbZ s≤(s.size:Int);omega
 ·rename_i g;have g:QbZ s≥0:=g;have:=QiI g;show 0≤i64.wrap (QbZ s+1)∧i64.wrap (QbZ s+1)≤(s.size:Int);rw[w64 (by omega) (by omega)];omega
 ·rename_i g;have g:QbZ s≥0:=g;have hin:=QiI g;have hw:i64.wrap (QbZ s+1)=QbZ s+1:=w64 (by omega) (by omega);have e1:QdQ s=s.extract 0 (QbZ s).toNat:=Yf g;have e2:cutA s=s.extract (i64.wrap (QbZ s+1)).toNat s.size:=by rw[hw];exact Yf g
  refine .k [] [] _ rfl ?_;show AV.tup [.c (.imm (.string (s.extract 0 (QbZ s).toNat))),.c (.imm (.string (s.extract (i64.wrap (QbZ s+1)).toNat s.size))),.c (bv true)]=AV.tup [.c (.imm (.string (QdQ s))),.c (.imm (.string (cutA s))),.c (bv (decide (0≤QbZ s)))];rw[e1,e2,Yl (show 0≤QbZ s from g)]
 ·rename_i g;have g:¬QbZ s≥0:=g;have e1:QdQ s=s:=Yb g;have e2:cutA s=⟨#[]⟩:=Yb g;refine .k [] [] _ rfl ?_;show AV.tup [.c (.imm (.string s)),.c (.imm (.string ⟨#[]⟩)),.c (bv false)]=AV.tup [.c (.imm (.string (QdQ s))),.c (.imm (.string (cutA s))),.c (bv (decide (0≤QbZ s)))];rw[e1,e2,Yn (show¬0≤QbZ s from g)]
theorem QHI:G0 193 QI1.spec:=by
 have a:S0 _:=Qa QzV (Qb (T:=tree));have d:=tabs a Qc;refine QI1.gd d a Tryz.func193 fun(s p:ByteArray) b=>?_
 have f:p=QBQ∧s.size≤140737488351232:=b _ rfl;clear b
 repeat' first|(apply Ea;conv=>whnf)|apply Eb|apply Ec|apply Ed|apply Ee|(apply Ei;intro _)|apply Ef d a
 ·exact f
 ·exact .k [] [] _ R R
theorem Qdn(N:List Int):Qao (Qao N)=Qao N:=Qpt (Qaq N 0) (Qaq N 6)
theorem QgC(N:List Int)(n:Nat):Qao (Qr QaP n (Qao N))=Qr QaP n (Qao N):=by
 have e:Qr QaP n (Qao N)=Qr (Qy 1) n (vo N 0)++Qr (Qy 1) n (vo N 6):=Qig (Qaq N 0) (Qaq N 6) n;rw[e];exact Qpt (QfJ (Qaq N 0) n) (QfJ (Qaq N 6) n)
end Go.Proofs.YtofgbclopbmlcaaGreat

namespace Go.Fw
open Go.IntKind (i64)
set_option maxHeartbeats 8000000
set_option linter.unusedVariables false
set_option linter.unusedSimpArgs false
theorem Back.frz{E0 E:Env}{r:AV}{fresh fresh':List Blk}{v:Value}(hU:∀b,¬E0.U b)(h:Back E0 0 r [] fresh v E)(us acc:List Nat)(c1:QeO 0 acc=true)(c2:QoL (fun b=>fresh[b]?) us acc acc=true)
 (c3:inN acc (fzA (fun b=>fresh[b]?) us r).names=true) (hh:wkH (fun b=>fresh[b]?) us acc=fresh'.map some) :
 ∃E',E'.w=E.w∧Back E0 0 ((fzA (fun b=>fresh[b]?) us r).rn (idx acc)) [] fresh' v E':=by
 have hl:∀b,E.H b=fresh[b]?:=fun b=>by rw[h.H b,Yb (by omega)];rfl
 obtain⟨k1,k2,k3⟩:=weak (m:=0) (fun b hb=>YD hb (hU b)) h.ok hl ⟨h.fr,h.ext⟩ c1 c2
 have hlen:acc.length=fresh'.length:=by
  have:=Yv List.length hh;simpa[wkH] using this
 refine⟨QhH E _ us acc,rfl,k3 _ v c3 h.val,k1,fun b=>?_,fun b=>?_,k2.ext,k2.fr⟩
 ·show(match (wkH _ us acc)[b]? with|some x=>x|none=>none)=_;rw[hh,Yb (by omega),Jc];show _=fresh'[b]?;cases fresh'[b]?<;>rfl
 ·show b<acc.length↔_;rw[hlen];omega
theorem QR.frz{P:Program}{f:Nat}{gs:List Sig}{o o':Args gs→Option Prop×AV×List Blk}(h1:QR P f (PSpec.spec ⟨gs,o⟩))(us acc:List Nat)
 (h:∀xs,(∀q,(o' xs).1=some q→q)→(∀q,(o xs).1=some q→q)∧QeO 0 acc=true∧QoL (fun b=>(o xs).2.2[b]?) us acc acc=true∧inN acc (fzA (fun b=>(o xs).2.2[b]?) us (o xs).2.1).names=true ∧
   wkH (fun b=>(o xs).2.2[b]?) us acc=(o' xs).2.2.map some∧(fzA (fun b=>(o xs).2.2[b]?) us (o xs).2.1).rn (idx acc)=(o' xs).2.1):QR P f (PSpec.spec ⟨gs,o'⟩):=by
 refine⟨?_,h1.2⟩;intro E0 vs args bl p r upd fresh hH hU hok hvs hrun hp;unfold PSpec.spec at hrun;simp only at hrun;split at hrun
 ·split at hrun
  ·rename_i xs hxs;simp only[Yc,YM] at hrun;obtain⟨rfl,rfl,rfl,rfl⟩:=hrun;obtain⟨k1,c1,c2,c3,c4,c5⟩:=h xs hp
   have run:(PSpec.spec ⟨gs,o⟩).run args []=some ((o xs).1,(o xs).2.1,[],(o xs).2.2):=by
    unfold PSpec.spec;simp only[hxs]
   refine(h1.1 E0 vs args [] _ _ _ _ hH hU hok hvs run k1).mono ?_
   rintro e w' ⟨v,E',he,hw,hb⟩
   obtain⟨E2,e2,hb2⟩:=Back.frz (fun b hb'=>by have:=(hU b).1 hb';simp at this) hb us acc c1 c2 c3 c4;rw[c5] at hb2;exact⟨v,E2,he,e2.trans hw,hb2⟩
  ·cases hrun
 ·cases hrun
def mvC(b nm:Nat):Cell→Cell
 |.own c=>(match Nat.beq c b with|true=>.own nm|false=>.own c)
 |c=>c
def Qxb(b nm:Nat):List Cell→List Cell
 | []=>[]
 |c::r=>mvC b nm c::Qxb b nm r
theorem QAp(b nm:Nat)(c:Cell):(mvC b nm c).size=c.size:=by
 unfold mvC;split
 ·split<;>rfl
 ·rfl
theorem Qm0(b nm:Nat):∀cs:List Cell,(Qxb b nm cs).map Cell.size=cs.map Cell.size
 | []=>rfl
 |c::r=>by
  unfold Qxb;rw[Jb,Jb,QAp,Qm0 b nm r]
section
variable {E:Env} {b nm:Nat} {u:Ty} {l:List (Den u)}
theorem QEW(hx:Ext E (Qch E b nm u l))(hb:E.H b=some (.arr u l)){c:Cell}{vs:List Value}(h:QaI E c vs):QaI (Qch E b nm u l) (mvC b nm c) vs:=by
 unfold mvC;split
 ·rename_i k;split
  ·rename_i hk;have hk:=Yg hk;subst hk;obtain⟨v,h1,hU,h2⟩:=h;refine⟨v,h1,.inr rfl,fun t l' h'=>?_⟩;simp only[Qch,if_true,Yc] at h';injection h' with e1 e2
   subst e1;have e2:=eq_of_heq e2;subst e2;rcases h2 _ _ hb with⟨hr,rfl⟩|⟨g,cs,el,cap,hr,hw,rfl,hc,hsz⟩
   ·exact .inl ⟨by simp[Qch,hr],rfl⟩
   ·exact .inr ⟨g,cs,el,cap,by simp[Qch,hr],hw,rfl,hc,hsz⟩
  ·exact h.ext hx
 ·exact h.ext hx
theorem QqN(hx:Ext E (Qch E b nm u l))(hb:E.H b=some (.arr u l)):∀{cs:List Cell} {vs:List Value},IR E cs vs→IR (Qch E b nm u l) (Qxb b nm cs) vs
 | [],_,h=>h
 |c::cs,vs,⟨r,s,e,h1,h2⟩=>⟨r,s,e,QEW hx hb h1,QqN hx hb h2⟩
end
theorem Le.moveH{m:Nat}{st:St}(c b:Nat){u:Ty}{l:List (Den u)}{cs:List Cell}(hc:st.heap[c]?=some (some (.var cs)))(hb:st.heap[b]?=some (some (.arr u l))) :
 Le m st { tmps:=st.tmps,heap:=Qad (Qad (Qad st.heap b none) st.heap.length (some (.arr u l))) c (some (.var (Qxb b st.heap.length cs))) }:=by
 intro E0 E a hm hs hf;have hltc:c<st.heap.length:=(Yu.1 hc).1;have hltb:b<st.heap.length:=(Yu.1 hb).1;have hcb:c≠b:=fun e=>by rw[e,hb] at hc;cases hc
 have hU:¬E.U st.heap.length:=fun hu=>by have:=hs.U _ hu;omega
 have hlb:st.look b=some (.arr u l):=by unfold St.look;rw[hb]
 have hlc:st.look c=some (.var cs):=by unfold St.look;rw[hc]
 have hbE:E.H b=some (.arr u l):=(hs.H b).trans hlb;have hcE:E.H c=some (.var cs):=(hs.H c).trans hlc;have hstep:Step E { pre:=none,val:=.dead,add:=[.arr u (l.take l.length)],set:=[(b,none)] } st.heap.length (Qch E b st.heap.length u (l.take l.length)):=Step.cut hs.ok hbE rfl rfl hU;rw[List.take_length] at hstep;have hs1:=hs.step (dst:=none) (v:=undef) hstep trivial;have hf1:=hf.step hstep;have hnb:c≠st.heap.length:=by omega
 obtain⟨hu,⟨g,ca,el,hr,hw,hir⟩,hS⟩:=hs.ok.blk c _ hcE;have hc1:(Qch E b st.heap.length u l).H c=some (.var cs):=by simp[Qch,hnb,hcb,hcE]
 have hr1:(Qch E b st.heap.length u l).ρ c=some g:=by simp[Qch,hnb,hr]
 have hsh:shape (.var (Qxb b st.heap.length cs))=shape (.var cs):=by simp only[shape];rw[Qm0]
 have hwr:Writes (Qch E b st.heap.length u l) g ca ca el (Qch E b st.heap.length u l).w:=⟨hw,hw,rfl,fun _ _=>rfl,rfl,rfl,rfl,rfl⟩
 have hir1:=QqN hstep.ext hbE hir
 have hlen:c<(Qad (Qad st.heap b none) st.heap.length (some (.arr u l))).length:=by
  have h1:=(Qc9 [.arr u l] (Qad st.heap b none) st.heap.length).1;have h1:(Qad st.heap b none).length≤(Qad (Qad st.heap b none) st.heap.length (some (.arr u l))).length:=h1;rw[Qd7 _ _ _ hltb] at h1;exact Jn hltc h1
 refine⟨QdY (Qch E b st.heap.length u l) c (.var (Qxb b st.heap.length cs)) (Qch E b st.heap.length u l).w,rfl,⟨hs1.defers,hs1.len,fun j y hy=>?_,QjV hs1.ok hc1 hr1 hsh hwr hir1,fun x=>?_,fun x hx=>?_⟩,?_⟩
 ·obtain⟨v,h1,h2⟩:=hs1.tmp j y hy;exact⟨v,h1,h2.ext (QcG hs1.ok hc1 hr1 hsh hwr)⟩
 ·show(if x=c then some (.var (Qxb b st.heap.length cs)) else (Qch E b st.heap.length u l).H x)=St.look { tmps:=st.tmps,heap:=Qad (Qad (Qad st.heap b none) st.heap.length (some (.arr u l))) c (some (.var (Qxb b st.heap.length cs))) } x;unfold St.look;rw[Qes (α:=Nat) _ _ _ _ hlen];split
  ·rfl
  ·exact hs1.H x
 ·have:=hs1.U x hx;show x<(Qad (Qad (Qad st.heap b none) st.heap.length (some (.arr u l))) c (some (.var (Qxb b st.heap.length cs)))).length;rw[Qd7 _ _ _ hlen];exact this
 ·exact⟨QjW hs1.ok hc1 hr1 hwr hf1.fr,hf1.ext.trans (QcG hs1.ok hc1 hr1 hsh hwr)⟩
end Go.Fw

