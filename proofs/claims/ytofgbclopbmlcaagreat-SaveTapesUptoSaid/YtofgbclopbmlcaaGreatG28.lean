/- Part 28 of the proof. Conditions: none. -/
import Derived.Test.YtofgbclopbmlcaaGreatG26
import Derived.Test.YtofgbclopbmlcaaGreatG13
import Derived.Test.YtofgbclopbmlcaaGreatG27
import Derived.Test.YtofgbclopbmlcaaGreatG16
import Derived.Carry
import Derived.OpenShut
import Derived.Test.YtofgbclopbmlcaaGreatG22
import Derived.Test.YtofgbclopbmlcaaGreatG24
namespace Go.Proofs.YtofgbclopbmlcaaGreat
open Go.IntKind (i64)
set_option maxHeartbeats 8000000
open Go.Fw
set_option linter.unusedVariables false
set_option linter.unusedSimpArgs false
set_option maxRecDepth 100000
abbrev QdC:AV:=.agg [.own 0,.own 1]
theorem QCV{a b c d:Int}(u:a=c)(s:b=d):AV.tup [I1 a,I1 b,.c (.own 0)]=AV.tup [I1 c,I1 d,.c (.own 0)]:=by rw[u,s]
theorem QdD{l l' m m':List Int}(h:l=l')(s:m=m'):[some (Blk.arr (.int .i64) l),some (Blk.arr (.int .u8) m)]=[some (Blk.arr (.int .i64) l'),some (Blk.arr (.int .u8) m')]:=by rw[h,s]
theorem QCW{x:Int}(w:0≤x)(u:x<256):IntKind.u8.wrap x=x:=by
 show x%256=x;omega
theorem Qh3{x y:Int}(s:x=y):AV.tup [.agg [.own 0,.own 1],I1 x]=AV.tup [.agg [.own 0,.own 1],I1 y]:=by rw[s]
def QFP:PSpec:=⟨[gD],fun(d,_)=>(none,.tup [I1 (vP d.1),I1 (vH d.1),.c (.own 0)],[.arr (.int .u8) (vM d.2)])⟩
theorem Qh4:G0 223 QFP.spec:=by
 have q:S0 _:=Qa QU (Qb (T:=tree));have r:=tabs q Qc;refine QFP.gd r q Tryz.func223 fun(d:Dv) _=>?_
 obtain⟨N,M⟩:=d
 repeat' first|(apply Ea;conv=>whnf)|apply Eb|apply Ec|apply Ed|apply Ee|(apply Ei;intro _)|apply Ef r q
 all_goals first
  |exact Ya rfl
  |(rename_i h
    have h:(N.length:Int)>0:=h;show(0:Int)≤0∧(0:Int)<N.length
    omega)
  |(rename_i h
    have h:(N.length:Int)>1:=h;show(0:Int)≤1∧(1:Int)<N.length
    omega)
  |(rename_i s h
    have h:(N.length:Int)>1:=h;have s:¬(N.length:Int)>0:=s
    exfalso;omega)
  |skip
 ·rename_i s h;have s:(N.length:Int)>0:=s;refine .k [] [1] _ rfl (QCV ?_ ?_)
  ·show Int.tmod (i64.wrap (Int.tmod (N.getD 0 0) 2560+2560)) 2560=vP N;rw[QoX _ (by omega) (by omega),vP,Yb (by omega)]
  ·exact rfl
 ·rename_i s h;have s:(N.length:Int)>0:=s;have h:¬(N.length:Int)>1:=h;have e:N.getD 1 0=0:=by simp only[Yd];rw[YK (by omega)];rfl
  refine .k [] [1] _ rfl (QCV ?_ ?_)
  ·show Int.tmod (i64.wrap (Int.tmod (N.getD 0 0) 2560+2560)) 2560=vP N;rw[QoX _ (by omega) (by omega),vP,Yb (by omega)]
  ·show 0=N.getD 1 0%2;rw[e];rfl
 ·rename_i s h;have s:¬(N.length:Int)>0:=s;have e:N.getD 1 0=0:=by simp only[Yd];rw[YK (by omega)];rfl
  refine .k [] [1] _ rfl (QCV ?_ ?_)
  ·show 2559=vP N;rw[vP,Yf (by omega)]
  ·show 0=N.getD 1 0%2;rw[e];rfl
def QtL:WSpec:=⟨Int×Int×List Int,fun x=>[.c (iv .i64 x.1),.c (iv .i64 x.2.1),.c (.own 0)],fun x=>[.arr (.int .u8) x.2.2],
 fun a b=>(match a,b with| [.c (.imm (.int .i64 p)),.c (.imm (.int .i64 h)),.c (.own 0)],[.arr (.int .u8) m]=>some (p,h,m)|_,_=>none),
 fun x=>(none,.agg [.own 1,.own 0],[some (.arr (.int .u8) x.2.2)],[.arr (.int .i64) [x.1,x.2.1]])⟩
theorem Qg8:G0 198 QtL.spec:=by
 have q:S0 _:=(Qb (T:=tree))
 have r:=tabs q Qc;refine QtL.gd r q Tryz.func198 ?_ fun((p,h,m):Int×Int×List Int) _=>?_
 ·intro a b x h;simp only[QtL] at h;split at h
  ·injection h with h;subst h;exact⟨rfl,rfl⟩
  ·cases h
 repeat' first|(apply Ea;conv=>whnf)|apply Eb|apply Ec|apply Ed|apply Ee|(apply Ei;intro _)|apply Ef r q
 all_goals first
  |exact Ya rfl
  |exact .k [] [0,2] _ R R
def QFQ:PSpec:=⟨[],fun _=>(none,QdC,[.arr (.int .i64) [2559,0],.arr (.int .u8) (List.replicate 32 0)])⟩
theorem QCX:G0 113 QFQ.spec:=by
 have q:S0 _:=Qa Qg8 (Qb (T:=tree));have r:=tabs q Qc;refine QFQ.gd r q Tryz.func113 fun _=>?_
 repeat' first|(apply Ea;conv=>whnf)|apply Eb|apply Ec|apply Ed|apply Ee|(apply Ei;intro _)|apply Ef r q
 all_goals first
  |exact Ya rfl
  |exact .k [] [2,1] _ R R
  |skip
def QAX:PSpec:=⟨[gD,gi],fun(d,k,_)=>(some (u8s d.2∧k≤4611686018427387904),QdC,[.arr (.int .i64) (Qr (QaV (vM d.2)) k.toNat [vP d.1,vH d.1]),.arr (.int .u8) (vM d.2)])⟩
theorem QxY:G0 160 QAX.spec:=by
 have q:S0 _:=Qa Qg8 (Qa Qh4 (Qa QCU (Qb (T:=tree))));have r:=tabs q Qc;refine QAX.gd r q Tryz.func160 fun(d:Dv) (k:Int) A=>?_
 obtain⟨N,M⟩:=d;obtain⟨z,hk⟩:u8s M∧k≤4611686018427387904:=A _ rfl
 repeat' first|(apply Ea;conv=>whnf)|apply Eb|apply Ec|apply Ed|apply Ee|(apply Ei;intro _)|apply Ef r q
 all_goals first
  |exact Ya rfl
  |skip
 ·rename_i D;have D:k>5120:=D;have ek:i64.wrap (2560+Int.tmod k 2560)=2560+k%2560:=by rw[Yi (by omega),w64 (by omega) (by omega)]
  refine Q4 r q (X:=Int×Int×Int) (fun(i,p,h)=>St.mk (E3 (E1 ((.cell (.ptr 0 0))::(I p)::(I h)::(.cell (.own 1))::E10 (E1 ((I (i64.wrap (2560+Int.tmod k 2560)))::(I i)::E10 (E2 [])))))) [some (.var [.imm (.slice none 0 0),.imm (.slice none 0 0)]),some (.arr (.int .u8) (vM M))])
   (fun(i,p,h)=>∃j:Nat,i=j∧j≤(i64.wrap (2560+Int.tmod k 2560)).toNat∧[p,h]=Qr (QaV (vM M)) j [vP N,vH N]∧0≤p∧p<2560) (fun(i,_)=>((i64.wrap (2560+Int.tmod k 2560))-i).toNat) (0,vP N,vH N) (Le.k [] [1,2] ?_) ?_ fun(i,p,h) C=>?_
  rotate_right
  repeat' first|(apply Ea;conv=>whnf)|apply Eb|apply Ec|apply Ed|apply Ee|(apply Ei;intro _)|apply Ef r q
  rotate_right 2
  ·repeat' constructor
  ·exact⟨0,rfl,YR _,rfl,(QdB N).1,(QdB N).2⟩
  all_goals
   obtain⟨j,rfl,hj,B,H,G⟩:=C;have f:Int.tmod (i64.wrap (p+1)) 2560=(p+1)%2560:=by rw[w64 (by omega) (by omega),Yi (by omega)]
   have hpos2:0≤Int.tmod (i64.wrap (p+1)) 2560∧Int.tmod (i64.wrap (p+1)) 2560<2560:=by rw[f];omega
  ·decide
  ·exact⟨Qa0 M,Qe5 z,hpos2.1,hpos2.2⟩
  ·rename_i hh g;have g:(j:Int)<i64.wrap (2560+Int.tmod k 2560):=g;have hh:QgQ (vM M) (Int.tmod (i64.wrap (p+1)) 2560)=true:=hh;rw[f] at hh;have e:i64.wrap ((j:Int)+1)=((j+1:Nat):Int):=by rw[w64 (by omega) (by omega)];omega
   apply Yw (_,_,_);refine Yo ?_ (Yo ?_ (Le.k [] [0,1] ?hh))
   case hh=>repeat' constructor
   ·refine⟨j+1,e,by omega,?_,by rw[f];omega,by rw[f];omega⟩;rw[QX,←B,QaV,hh,f];rfl
   ·show((i64.wrap (2560+Int.tmod k 2560))-i64.wrap ((j:Int)+1)).toNat<((i64.wrap (2560+Int.tmod k 2560))-(j:Int)).toNat;rw[e];omega
  ·rename_i hh g;have g:(j:Int)<i64.wrap (2560+Int.tmod k 2560):=g;have hh:QgQ (vM M) (Int.tmod (i64.wrap (p+1)) 2560)=false:=hh;rw[f] at hh;have e:i64.wrap ((j:Int)+1)=((j+1:Nat):Int):=by rw[w64 (by omega) (by omega)];omega
   apply Yw (_,_,_);refine Yo ?_ (Yo ?_ (Le.k [] [0,1] ?hh))
   case hh=>repeat' constructor
   ·refine⟨j+1,e,by omega,?_,by rw[f];omega,by rw[f];omega⟩;rw[QX,←B,QaV,hh,f];rfl
   ·show((i64.wrap (2560+Int.tmod k 2560))-i64.wrap ((j:Int)+1)).toNat<((i64.wrap (2560+Int.tmod k 2560))-(j:Int)).toNat;rw[e];omega
  ·rename_i g;have g:¬(j:Int)<i64.wrap (2560+Int.tmod k 2560):=g;have ej:j=(i64.wrap (2560+Int.tmod k 2560)).toNat:=by omega
   refine .mk [] [2,1] _ R R R R R (QdD (l:=[p,h]) ?_ rfl) rfl;show _=Qr (QaV (vM M)) k.toNat [vP N,vH N];have en:j=2560+k.toNat%2560:=by rw[ej,ek];omega
   rw[Qtx (vM M) (QdB N) (n:=k.toNat) (by omega),←en];exact B
 ·rename_i D;have D:¬k>5120:=D
  refine Q4 r q (X:=Int×Int×Int) (fun(i,p,h)=>St.mk (E3 (E1 ((.cell (.ptr 0 0))::(I p)::(I h)::(.cell (.own 1))::E10 (E1 ((I k)::(I i)::E10 (E2 [])))))) [some (.var [.imm (.slice none 0 0),.imm (.slice none 0 0)]),some (.arr (.int .u8) (vM M))])
   (fun(i,p,h)=>∃j:Nat,i=j∧j≤k.toNat∧[p,h]=Qr (QaV (vM M)) j [vP N,vH N]∧0≤p∧p<2560) (fun(i,_)=>(k-i).toNat) (0,vP N,vH N) (Le.k [] [1,2] ?_) ?_ fun(i,p,h) C=>?_
  rotate_right
  repeat' first|(apply Ea;conv=>whnf)|apply Eb|apply Ec|apply Ed|apply Ee|(apply Ei;intro _)|apply Ef r q
  rotate_right 2
  ·repeat' constructor
  ·exact⟨0,rfl,YR _,rfl,(QdB N).1,(QdB N).2⟩
  all_goals
   obtain⟨j,rfl,hj,B,H,G⟩:=C;have f:Int.tmod (i64.wrap (p+1)) 2560=(p+1)%2560:=by rw[w64 (by omega) (by omega),Yi (by omega)]
   have hpos2:0≤Int.tmod (i64.wrap (p+1)) 2560∧Int.tmod (i64.wrap (p+1)) 2560<2560:=by rw[f];omega
  ·decide
  ·exact⟨Qa0 M,Qe5 z,hpos2.1,hpos2.2⟩
  ·rename_i hh g;have g:(j:Int)<k:=g;have hh:QgQ (vM M) (Int.tmod (i64.wrap (p+1)) 2560)=true:=hh;rw[f] at hh;have e:i64.wrap ((j:Int)+1)=((j+1:Nat):Int):=by rw[w64 (by omega) (by omega)];omega
   apply Yw (_,_,_);refine Yo ?_ (Yo ?_ (Le.k [] [0,1] ?hh))
   case hh=>repeat' constructor
   ·refine⟨j+1,e,by omega,?_,by rw[f];omega,by rw[f];omega⟩;rw[QX,←B,QaV,hh,f];rfl
   ·show(k-i64.wrap ((j:Int)+1)).toNat<(k-(j:Int)).toNat;rw[e];omega
  ·rename_i hh g;have g:(j:Int)<k:=g;have hh:QgQ (vM M) (Int.tmod (i64.wrap (p+1)) 2560)=false:=hh;rw[f] at hh;have e:i64.wrap ((j:Int)+1)=((j+1:Nat):Int):=by rw[w64 (by omega) (by omega)];omega
   apply Yw (_,_,_);refine Yo ?_ (Yo ?_ (Le.k [] [0,1] ?hh))
   case hh=>repeat' constructor
   ·refine⟨j+1,e,by omega,?_,by rw[f];omega,by rw[f];omega⟩;rw[QX,←B,QaV,hh,f];rfl
   ·show(k-i64.wrap ((j:Int)+1)).toNat<(k-(j:Int)).toNat;rw[e];omega
  ·rename_i g;have g:¬(j:Int)<k:=g;have ej:j=k.toNat:=by omega
   refine .mk [] [2,1] _ R R R R R (QdD (l:=[p,h]) ?_ rfl) rfl;show _=Qr (QaV (vM M)) k.toNat [vP N,vH N];rw[←ej];exact B
def QFR:PSpec:=⟨[gD],fun(d,_)=>(some (u8s d.2),I (Qaj (vM d.2) (vP d.1)),[])⟩
theorem QCY:G0 217 QFR.spec:=by
 have q:S0 _:=Qa Qh4 (Qa Qpb (Qb (T:=tree)));have r:=tabs q Qc;refine QFR.gd r q Tryz.func217 fun(d:Dv) A=>?_
 obtain⟨N,M⟩:=d;have z:u8s M:=A _ rfl
 repeat' first|(apply Ea;conv=>whnf)|apply Eb|apply Ec|apply Ed|apply Ee|(apply Ei;intro _)|apply Ef r q
 ·exact⟨Qa0 M,Qe5 z,(QdB N).1,(QdB N).2⟩
 ·exact .k [] [] _ R R
def vwM(m:List Int)(a k:Int):List Int:=if (0≤a∧a<32)∧(a<5∨a>7) then m.set a.toNat (k%256) else m
def QtM:PSpec:=⟨[gD,gi,gi],fun(d,a,k,_)=>(none,QdC,[.arr (.int .i64) [vP d.1,vH d.1],.arr (.int .u8) (vwM (vM d.2) a k)])⟩
theorem QtN:G0 183 QtM.spec:=by
 have q:S0 _:=Qa Qg8 (Qa Qh4 (Qa QU (Qb (T:=tree))));have r:=tabs q Qc;refine QtM.gd r q Tryz.func183 fun(d:Dv) (a k:Int) _=>?_
 obtain⟨N,M⟩:=d
 repeat' first|(apply Ea;conv=>whnf)|apply Eb|apply Ec|apply Ed|apply Ee|(apply Ei;intro _)|apply Ef r q
 all_goals first
  |exact Ya rfl
  |skip
 ·show 0≤a∧a<(vM M).length;rw[Qa0];omega
 ·show a.toNat<(vM M).length;rw[Qa0];omega
 ·refine .mk [] [3,2] _ R R R R R (QdD (l:=[vP N,vH N]) (m:=(vM M).set a.toNat (IntKind.u8.wrap (k%2 ^ (8:Int).toNat))) rfl ?_) rfl;show _=vwM (vM M) a k;have e:IntKind.u8.wrap (k%2 ^ (8:Int).toNat)=k%256:=QCW (by show 0≤k%256;omega) (by show k%256<256;omega);rw[vwM,Yf ⟨⟨by omega,by omega⟩,by omega⟩,e]
 ·show 0≤a∧a<(vM M).length;rw[Qa0];omega
 ·show a.toNat<(vM M).length;rw[Qa0];omega
 ·refine .mk [] [3,2] _ R R R R R (QdD (l:=[vP N,vH N]) (m:=(vM M).set a.toNat (IntKind.u8.wrap (k%2 ^ (8:Int).toNat))) rfl ?_) rfl;show _=vwM (vM M) a k;have e:IntKind.u8.wrap (k%2 ^ (8:Int).toNat)=k%256:=QCW (by show 0≤k%256;omega) (by show k%256<256;omega);rw[vwM,Yf ⟨⟨by omega,by omega⟩,by omega⟩,e]
 ·refine .mk [] [3,2] _ R R R R R (QdD (l:=[vP N,vH N]) (m:=vM M) rfl ?_) rfl;show _=vwM (vM M) a k;rw[vwM,Yb (fun e=>by omega)]
 ·refine .mk [] [3,2] _ R R R R R (QdD (l:=[vP N,vH N]) (m:=vM M) rfl ?_) rfl;show _=vwM (vM M) a k;rw[vwM,Yb (fun e=>by omega)]
 ·refine .mk [] [3,2] _ R R R R R (QdD (l:=[vP N,vH N]) (m:=vM M) rfl ?_) rfl;show _=vwM (vM M) a k;rw[vwM,Yb (fun e=>by omega)]
def vrF(N m:List Int)(a:Int):Int:=if a=5 then vP N/64 else if a=6 then vP N%64 else if a=7 then vH N else if 0≤a∧a<32 then bA m a.toNat else 0
def vrN(N:List Int)(a:Int):List Int:=[vP N,if a=7 then 0 else vH N]
def QAY:PSpec:=⟨[gD,gi],fun(d,a,_)=>(some (u8s d.2),.tup [.agg [.own 0,.own 1],I1 (vrF d.1 (vM d.2) a)],[.arr (.int .i64) (vrN d.1 a),.arr (.int .u8) (vM d.2)])⟩
theorem QxZ:G0 176 QAY.spec:=by
 have q:S0 _:=Qa Qg8 (Qa Qh4 (Qb (T:=tree)));have r:=tabs q Qc;refine QAY.gd r q Tryz.func176 fun(d:Dv) (a:Int) A=>?_
 obtain⟨N,M⟩:=d;have z:u8s M:=A _ rfl;have t:=QdB N
 repeat' first|(apply Ea;conv=>whnf)|apply Eb|apply Ec|apply Ed|apply Ee|(apply Ei;intro _)|apply Ef r q
 all_goals first
  |exact Ya rfl
  |(show 0≤a∧a<(vM M).length
    rw[Qa0];omega)
  |(show a.toNat<(vM M).length
    rw[Qa0];omega)
  |skip
 ·rename_i h;have h:a=5:=h;refine .mk [] [3,2] _ R R R R R (QdD (l:=[vP N,vH N]) (m:=vM M) ?_ rfl) (Qh3 ?_)
  ·show _=vrN N a;rw[vrN,Yb (by omega)]
  ·show i64.wrap (Int.tdiv (vP N) 64)=vrF N (vM M) a;rw[vrF,Yf h,Yp t.1,w64 (by omega) (by omega)]
 ·rename_i w h;have h:a=6:=h;refine .mk [] [3,2] _ R R R R R (QdD (l:=[vP N,vH N]) (m:=vM M) ?_ rfl) (Qh3 ?_)
  ·show _=vrN N a;rw[vrN,Yb (by omega)]
  ·show Int.tmod (vP N) 64=vrF N (vM M) a;rw[vrF,Yb w,Yf h,Yi t.1]
 ·rename_i w u h;have h:a=7:=h;refine .mk [] [3,2] _ R R R R R (QdD (l:=[vP N,0]) (m:=vM M) ?_ rfl) (Qh3 ?_)
  ·show _=vrN N a;rw[vrN,Yf h]
  ·show vH N=vrF N (vM M) a;rw[vrF,Yb w,Yb u,Yf h]
 ·rename_i w u s E J;have hb:=QcU (Qe5 z) a.toNat;refine .mk [] [3,2] _ R R R R R (QdD (l:=[vP N,vH N]) (m:=vM M) ?_ rfl) (Qh3 ?_)
  ·show _=vrN N a;rw[vrN,Yb s]
  ·show i64.wrap (bA (vM M) a.toNat)=vrF N (vM M) a;rw[vrF,Yb w,Yb u,Yb s,Yf ⟨E,J⟩,w64 (by omega) (by omega)]
 ·rename_i w u s E J;refine .mk [] [3,2] _ R R R R R (QdD (l:=[vP N,vH N]) (m:=vM M) ?_ rfl) (Qh3 ?_)
  ·show _=vrN N a;rw[vrN,Yb s]
  ·show 0=vrF N (vM M) a;rw[vrF,Yb w,Yb u,Yb s,Yb (fun e=>J e.2)]
 ·rename_i w u s E;refine .mk [] [3,2] _ R R R R R (QdD (l:=[vP N,vH N]) (m:=vM M) ?_ rfl) (Qh3 ?_)
  ·show _=vrN N a;rw[vrN,Yb s]
  ·show 0=vrF N (vM M) a;rw[vrF,Yb w,Yb u,Yb s,Yb (fun e=>E e.1)]
def QeJ(m:List Int)(p k:Int):Bool:=decide (Qaj m ((p+k)%2560)≠Qaj m p)
def Qe6(m:List Int)(p:Int):Nat→Int
 |0=>100000
 |n+1=>if QeJ m p (2560-n)=true then 2560-n-1 else Qe6 m p n
def Qct(m:List Int)(p:Int):Int:=Qe6 m p 2560
theorem QfE(m:List Int)(p:Int){n:Nat}(h:QeJ m p (2560-n)=false):Qe6 m p (n+1)=Qe6 m p n:=by
 rw[Qe6,h];rfl
theorem Qg9(m:List Int)(p:Int){n:Nat}(h:QeJ m p (2560-n)=true):Qe6 m p (n+1)=2560-n-1:=by
 rw[Qe6,h];rfl
def QAZ:PSpec:=⟨[gD],fun(d,_)=>(some (u8s d.2),I (Qct (vM d.2) (vP d.1)),[])⟩
theorem Qx0:G0 151 QAZ.spec:=by
 have q:S0 _:=Qa Qh4 (Qa Qpb (Qb (T:=tree)));have r:=tabs q Qc;refine QAZ.gd r q Tryz.func151 fun(d:Dv) A=>?_
 obtain⟨N,M⟩:=d;have z:u8s M:=A _ rfl;have t:=QdB N
 repeat' first|(apply Ea;conv=>whnf)|apply Eb|apply Ec|apply Ed|apply Ee|(apply Ei;intro _)|apply Ef r q
 ·exact⟨Qa0 M,Qe5 z,t.1,t.2⟩
 refine Q4 r q (X:=Int×Int) (fun(i,p)=>St.mk (E3 ((I p)::E1 ((.cell (.own 0))::(I (Qaj (vM M) (vP N)))::E10 ((I i)::E10 (E2 []))))) [some (.arr (.int .u8) (vM M))])
  (fun(i,p)=>∃j:Nat,i=j∧j≤2560∧p=(vP N+j)%2560∧Qct (vM M) (vP N)=Qe6 (vM M) (vP N) (2560-j)) (fun(i,_)=>(2560-i).toNat) (0,vP N) (Le.k [] [1] ?_) ?_ fun(i,p) C=>?_
 rotate_right
 repeat' first|(apply Ea;conv=>whnf)|apply Eb|apply Ec|apply Ed|apply Ee|(apply Ei;intro _)|apply Ef r q
 rotate_right 2
 ·repeat' constructor
 ·exact⟨0,rfl,YR _,by show vP N=(vP N+0)%2560;omega,rfl⟩
 all_goals
  obtain⟨j,rfl,hj,rfl,F⟩:=C;have f:Int.tmod (i64.wrap ((vP N+(j:Int))%2560+1)) 2560=(vP N+((j:Int)+1))%2560:=by rw[w64 (by omega) (by omega),Yi (by omega)];omega
  have hpos2:0≤Int.tmod (i64.wrap ((vP N+(j:Int))%2560+1)) 2560∧Int.tmod (i64.wrap ((vP N+(j:Int))%2560+1)) 2560<2560:=by rw[f];omega
 ·decide
 ·exact⟨Qa0 M,Qe5 z,hpos2.1,hpos2.2⟩
 ·rename_i g hh;have g:(j:Int)<2560:=g;have hh:(Qaj (vM M) (Int.tmod (i64.wrap ((vP N+(j:Int))%2560+1)) 2560) != Qaj (vM M) (vP N))=true:=hh;rw[f] at hh;refine .k [] [] _ rfl (Qd ?_);show(j:Int)=Qct (vM M) (vP N);have e:2560-j=(2560-(j+1))+1:=by omega
  have e2:(2560:Int)-((2560-(j+1):Nat):Int)=(j:Int)+1:=by omega
  rw[F,e,Qg9 _ _ (by rw[e2];unfold QeJ;simpa using hh)];omega
 ·rename_i g hh;have g:(j:Int)<2560:=g;have hh:(Qaj (vM M) (Int.tmod (i64.wrap ((vP N+(j:Int))%2560+1)) 2560) != Qaj (vM M) (vP N))=false:=hh;rw[f] at hh;have e:i64.wrap ((j:Int)+1)=((j+1:Nat):Int):=by rw[w64 (by omega) (by omega)];omega
  apply Yw (_,_);refine Yo ?_ (Yo ?_ (Le.k [] [0] ?hh))
  case hh=>repeat' constructor
  ·refine⟨j+1,e,by omega,?_,?_⟩
   ·rw[f];omega
   ·have e1:2560-j=(2560-(j+1))+1:=by omega
    have e2:(2560:Int)-((2560-(j+1):Nat):Int)=(j:Int)+1:=by omega
    rw[F,e1,QfE _ _ (by rw[e2];unfold QeJ;simpa using hh)]
  ·show((2560:Int)-i64.wrap ((j:Int)+1)).toNat<((2560:Int)-(j:Int)).toNat;rw[e];omega
 ·rename_i g;have g:¬(j:Int)<2560:=g;have ej:j=2560:=by omega
  refine .k [] [] _ rfl (Qd ?_);show 100000=Qct (vM M) (vP N);rw[F,ej];rfl
set_option linter.constructorNameAsVariable false
def i6Q(x:Int):Prop:=-9223372036854775808≤x∧x≤9223372036854775807
def cP(c:Cv):Prop:=i6Q c.2.2.1∧i6Q c.2.2.2.1∧List.length c.2.2.2.2≤140737488351232
def dP(d:Dv):Prop:=List.length d.2≤140737488355328∧u8s d.2
def Qbf(c:Cv):Int:=max 1 (min (max c.2.2.2.1 1) 4097-1)
theorem QcV(c:Cv):1≤Qbf c∧Qbf c≤4096:=by unfold Qbf;omega
def Qav(c:Cv):Int:=max 1 (((List.length c.2.2.2.2:Nat)+Qbf c-1)/Qbf c)
theorem Qba{c:Cv}(h:List.length c.2.2.2.2≤140737488351232):1≤Qav c∧Qav c≤140737488355328∧Qav c*Qbf c≤140737488355328:=by
 obtain⟨u,y⟩:=QcV c;have A:((List.length c.2.2.2.2:Nat)+Qbf c-1)/Qbf c*Qbf c≤(List.length c.2.2.2.2:Nat)+Qbf c-1:=Int.ediv_mul_le _ (by omega);have z:((List.length c.2.2.2.2:Nat)+Qbf c-1)/Qbf c≤(List.length c.2.2.2.2:Nat)+Qbf c-1:=Int.ediv_le_self _ (by omega);unfold Qav;rcases Int.le_total 1 (((List.length c.2.2.2.2:Nat)+Qbf c-1)/Qbf c) with h|h
 ·rw[Int.max_eq_right h];omega
 ·rw[Int.max_eq_left h];omega
def QbI(c:Cv):Int:=if c.2.1=2 then Qav c*Qbf c else max 0 (min c.2.2.2.1 65536)
theorem Ql3{c:Cv}(h:List.length c.2.2.2.2≤140737488351232):0≤QbI c∧QbI c≤140737488355328:=by
 obtain⟨u,y,A⟩:=Qba h;obtain⟨z,D⟩:=QcV c;have h6:0≤Qav c*Qbf c:=Int.mul_nonneg (by omega) (by omega);unfold QbI;split
 ·omega
 ·omega
def QaW(c:Cv)(M:List Int):List Int:=over (List.replicate (QbI c).toNat 0) M 0
def memN(c:Cv)(N:List Int):List Int:=if c.2.1=2 then [N.getD 0 0%Qav c] else []
theorem Qkr(c:Cv)(M:List Int):(QaW c M).length=(QbI c).toNat:=by
 unfold QaW;rw[Qco,Jr]
def QtP:PSpec:=⟨[gC],fun(c,_)=>(none,I (Qbf c),[])⟩
theorem Qh6:G0 197 QtP.spec:=by
 have p:S0 _:=(Qb (T:=tree))
 have q:=tabs p Qc;refine QtP.gd q p Tryz.func197 fun(c:Cv) _=>?_
 obtain⟨g,j,i,cs,f⟩:=c
 repeat' first|(apply Ea;conv=>whnf)|apply Eb|apply Ec|apply Ed|apply Ee|(apply Ei;intro _)|apply Ef q p
 refine .k [] [] _ rfl (Qd ?_);show imax 1 (i64.wrap (imin (imax cs 1) 4097-1))=max 1 (min (max cs 1) 4097-1);rw[Q8,QS,Q8,w64 (by omega) (by omega)]
def QtQ:PSpec:=⟨[gC],fun(c,_)=>(some (List.length c.2.2.2.2≤140737488351232),I (Qav c),[])⟩
theorem Qh7:G0 196 QtQ.spec:=by
 have p:S0 _:=Qa Qh6 (Qb (T:=tree));have q:=tabs p Qc;refine QtQ.gd q p Tryz.func196 fun(c:Cv) r=>?_
 have s:List.length c.2.2.2.2≤140737488351232:=r _ rfl;obtain⟨u,y⟩:=QcV c;obtain⟨g,j,i,cs,f⟩:=c;have s:f.length≤140737488351232:=s;clear r
 repeat' first|(apply Ea;conv=>whnf)|apply Eb|apply Ec|apply Ed|apply Ee|(apply Ei;intro _)|apply Ef q p
 all_goals first
  |(show Qbf (g,j,i,cs,f)≠0
    omega)
  |skip
 refine .k [] [] _ rfl (Qd ?_);show imax 1 (i64.wrap (Int.tdiv (i64.wrap (i64.wrap ((f.length:Int)+Qbf (g,j,i,cs,f))-1)) (Qbf (g,j,i,cs,f))))=Qav (g,j,i,cs,f);have z:((f.length:Int)+Qbf (g,j,i,cs,f)-1)/Qbf (g,j,i,cs,f)≤(f.length:Int)+Qbf (g,j,i,cs,f)-1:=Int.ediv_le_self _ (by omega);have D:0≤((f.length:Int)+Qbf (g,j,i,cs,f)-1)/Qbf (g,j,i,cs,f):=Int.ediv_nonneg (by omega) (by omega);rw[w64 (x:=(f.length:Int)+Qbf (g,j,i,cs,f)) (by omega) (by omega),w64 (x:=(f.length:Int)+Qbf (g,j,i,cs,f)-1) (by omega) (by omega),Yp (by omega),w64 (by omega) (by omega),Q8];rfl
def QtR:PSpec:=⟨[gC],fun(c,_)=>(some (List.length c.2.2.2.2≤140737488351232),I (QbI c),[])⟩
theorem Ql4:G0 109 QtR.spec:=by
 have p:S0 _:=Qa Qh6 (Qa Qh7 (Qb (T:=tree)));have q:=tabs p Qc;refine QtR.gd q p Tryz.func109 fun(c:Cv) r=>?_
 have s:List.length c.2.2.2.2≤140737488351232:=r _ rfl;obtain⟨u,y⟩:=QcV c;obtain⟨A,z,D⟩:=Qba s;have h6:0≤Qav c*Qbf c:=Int.mul_nonneg (by omega) (by omega);obtain⟨g,j,i,cs,f⟩:=c;clear r
 repeat' first|(apply Ea;conv=>whnf)|apply Eb|apply Ec|apply Ed|apply Ee|(apply Ei;intro _)|apply Ef q p
 all_goals first
  |exact s
  |skip
 ·rename_i h;have h:j=2:=h;refine .k [] [] _ rfl (Qd ?_);show i64.wrap (Qav (g,j,i,cs,f)*Qbf (g,j,i,cs,f))=QbI (g,j,i,cs,f);rw[w64 (by omega) (by omega),QbI,Yf h]
 ·rename_i h;have h:¬j=2:=h;refine .k [] [] _ rfl (Qd ?_);show imax 0 (imin cs 65536)=QbI (g,j,i,cs,f);rw[Q8,QS,QbI,Yb h]
theorem Qh8(n a b:Int)(h:a≤b):Qam n a b=max a (min n b):=by
 unfold Qam;(repeat' split)<;>omega
theorem QtS{l k w:Int}(G:1≤w)(C:0≤k)(s:0≤l)(u:l-k*w≤0)(y:k=0∨0<l-(k-1)*w):max 1 (min k 1152921504606846976)=max 1 (min ((l+w-1)/w) 1152921504606846976):=by
 rcases y with rfl|y
 ·have:l=0:=by omega
  subst this;have:(0+w-1)/w=0:=Int.ediv_eq_zero_of_lt (by omega) (by omega);rw[this]
 ·have e:(l+w-1)/w=k:=by
   rw[Int.sub_mul] at y;have:l+w-1=(l+w-1-k*w)+k*w:=by omega
   rw[this,Int.add_mul_ediv_right _ _ (by omega),Int.ediv_eq_zero_of_lt (by omega) (by omega)];omega
  rw[e]
def QtT:PSpec:=⟨[gC],fun(c,_)=>(some (cP c),.tup [I1 (Qav c),I1 (Qbf c)],[])⟩
theorem QfF:G0 107 QtT.spec:=by
 have p:S0 _:=Qa Qha (Qb (T:=tree));have q:=tabs p Qc;refine QtT.gd q p Tryz.func107 fun(c:Cv) r=>?_
 obtain⟨hb,H,s⟩:cP c:=r _ rfl;obtain⟨u,y⟩:=QcV c;obtain⟨A,z,D⟩:=Qba s;obtain⟨g,j,i,cs,f⟩:=c;have s:f.length≤140737488351232:=s;obtain⟨hs1,hs2⟩:-9223372036854775808≤cs∧cs≤9223372036854775807:=H;clear r
 have ew:Qam (i64.wrap (imax cs 1-1)) 1 4096=Qbf (g,j,i,cs,f):=by
  rw[Q8,Qh8 _ _ _ (by omega)];unfold Qbf;show _=max 1 (min (max cs 1) 4097-1);rw[w64 (by omega) (by omega)];omega
 generalize G:Qbf (g,j,i,cs,f)=w at *
 repeat' first|(apply Ea;conv=>whnf)|apply Eb|apply Ec|apply Ed|apply Ee|(apply Ei;intro _)|apply Ef q p
 refine Q4 q p (X:=Int×Int) (fun(k,l)=>St.mk (E3 (E1 ((I (Qam (i64.wrap (imax cs 1-1)) 1 4096))::(I k)::(I l)::E10 (E5 (E3 []))))) [])
  (fun(k,l)=>0≤k∧k≤f.length∧l=f.length-k*w∧(k=0∨0<(f.length:Int)-(k-1)*w)) (fun(k,l)=>l.toNat) (0,(f.length:Int)) (Le.mk [] [] R R R ?_) ?_ fun(k,l) hi=>?_
 rotate_right
 repeat' first|(apply Ea;conv=>whnf)|apply Eb|apply Ec|apply Ed|apply Ee|(apply Ei;intro _)|apply Ef q p
 ·rename_i F;obtain⟨B,C,K,E⟩:=hi;have F:l>0:=F;have J:k*1≤k*w:=Int.mul_le_mul_of_nonneg_left u B;have e1:i64.wrap (k+1)=k+1:=w64 (by omega) (by omega);have e2:i64.wrap (l-Qam (i64.wrap (imax cs 1-1)) 1 4096)=l-w:=by rw[ew];exact w64 (by omega) (by omega)
  apply Yw (_,_);refine Yo ?_ (Yo ?_ (Le.k [] [] ?hh))
  case hh=>repeat' constructor
  ·show 0≤i64.wrap (k+1)∧i64.wrap (k+1)≤f.length∧i64.wrap (l-Qam (i64.wrap (imax cs 1-1)) 1 4096)=f.length-i64.wrap (k+1)*w∧(i64.wrap (k+1)=0∨0<(f.length:Int)-(i64.wrap (k+1)-1)*w)
   rw[e1,e2,Int.add_mul,Int.one_mul];refine⟨by omega,by omega,by omega,.inr ?_⟩;have:k+1-1=k:=by omega
   rw[this];omega
  ·show(i64.wrap (l-Qam (i64.wrap (imax cs 1-1)) 1 4096)).toNat<l.toNat;rw[e2];omega
 ·rename_i F;obtain⟨B,C,K,E⟩:=hi;have F:¬l>0:=F;refine .k [] [] _ rfl ?_;show AV.tup [I1 (Qam k 1 1152921504606846976),I1 (Qam (i64.wrap (imax cs 1-1)) 1 4096)]=AV.tup [I1 (Qav (g,j,i,cs,f)),I1 (Qbf (g,j,i,cs,f))];have e:=QtS (l:=f.length) (k:=k) (w:=w) u B (by omega) (by omega) E;have h7:((f.length:Int)+w-1)/w≤(f.length:Int)+w-1:=Int.ediv_le_self _ (by omega)
  have e2:Qam k 1 1152921504606846976=Qav (g,j,i,cs,f):=by
   rw[Qh8 _ _ _ (by omega),e,Qav,G];show _=max 1 (((f.length:Int)+w-1)/w);rw[Int.min_eq_left (by omega)]
  rw[ew,e2,G]
 ·repeat' constructor
 ·exact⟨Int.le_refl _,by omega,by show(f.length:Int)=f.length-0*w;omega,.inl rfl⟩
theorem QCZ(n:Int)(M:List Int)(h:i64.wrap n=n):over (List.replicate (i64.wrap n).toNat 0) M 0=over (List.replicate n.toNat 0) M 0:=by rw[h]
def QFS:PSpec:=⟨[gC,gD],fun(c,d,_)=>(some (cP c),QdC,[.arr (.int .i64) (memN c d.1),.arr (.int .u8) (QaW c d.2)])⟩
theorem Qny:G0 155 QFS.spec:=by
 have p:S0 _:=Qa Ql4 (Qa Qh7 (Qb (T:=tree)));have q:=tabs p Qc;refine QFS.gd q p Tryz.func155 fun(c:Cv) (d:Dv) r=>?_
 obtain⟨hb,H,s⟩:cP c:=r _ rfl;obtain⟨A,z,D⟩:=Qba s;obtain⟨h6,h7⟩:=Ql3 s;obtain⟨N,M⟩:=d;clear r;obtain⟨g,j,i,cs,f⟩:=c
 repeat' first|(apply Ea;conv=>whnf)|apply Eb|apply Ec|apply Ed|apply Ee|(apply Ei;intro _)|apply Ef q p
 all_goals(try dsimp only[Qf] at *)
 all_goals first
  |exact s
  |exact Ya rfl
  |(show QbI (g,j,i,cs,f)=QbI (g,j,i,cs,f)∧0≤QbI (g,j,i,cs,f)∧QbI (g,j,i,cs,f)*1≤281474976710656∧QbI (g,j,i,cs,f)≤281474976710656
    omega)
  |(show(0:Int)≤0∧(0:Int)<(N.length:Int)
    omega)
  |(show Qav (g,j,i,cs,f)≠0
    omega)
  |skip
 ·rename_i t g2;refine .mk [] [5,3] _ R R R R R (Qu (l':=memN (g,j,i,cs,f) N) (m':=QaW (g,j,i,cs,f) M) ?_ rfl) rfl;show[Int.tmod (i64.wrap (Int.tmod (N.getD 0 0) (Qav (g,j,i,cs,f))+Qav (g,j,i,cs,f))) (Qav (g,j,i,cs,f))]=_;rw[QoX _ (by omega) (by omega),memN,Yf t]
 ·rename_i t g2;refine .mk [] [5,3] _ R R R R R (Qu (l:=[0]) (l':=memN (g,j,i,cs,f) N) (m':=QaW (g,j,i,cs,f) M) ?_ rfl) rfl;obtain rfl:N=[]:=Yr (by omega);rw[memN,Yf t];rfl
 ·rename_i t;refine .le (Le.nilH 2 (.int .i64) _ _ R R R) (.mk [] [5,3] _ R R R R R (Qu (l:=[]) (l':=memN (g,j,i,cs,f) N) (m':=QaW (g,j,i,cs,f) M) ?_ rfl) rfl);rw[memN,Yb t]
def Qpe:PSpec:=⟨[gC,gD],fun(c,d,_)=>(some (cP c∧(c.2.1=0∨c.2.1=1∨c.2.1=2)),QdC,[.arr (.int .i64) (memN c d.1),.arr (.int .u8) (QaW c d.2)])⟩
theorem Qgs:G0 58 Qpe.spec:=by
 have p:S0 _:=Qa Qha (Qa QfF (Qa QcT (Qb (T:=tree))));have q:=tabs p Qc;refine Qpe.gd q p Tryz.func58 fun(c:Cv) (d:Dv) r=>?_
 obtain⟨hc,C⟩:cP c∧(c.2.1=0∨c.2.1=1∨c.2.1=2):=r _ rfl;obtain⟨hb,H,s⟩:=id hc;obtain⟨A,z,D⟩:=Qba s;obtain⟨u,y⟩:=QcV c;obtain⟨N,M⟩:=d;clear r;obtain⟨g,j,i,cs,f⟩:=c;have C:j=0∨j=1∨j=2:=C;have el:Qam cs 0 65536=max 0 (min cs 65536):=Qh8 _ _ _ (by omega);rcases C with rfl|rfl|rfl
 ·repeat' first|(apply Ea;conv=>whnf)|apply Eb|apply Ec|apply Ed|apply Ee|(apply Ei;intro _)|apply Ef q p
  all_goals(try dsimp only[Qf] at *)
  ·omega
  ·rename_i t;refine .le (Le.nilH 2 (.int .i64) _ _ R R R) (.mk [] [5,4] _ R R R R R (Qu (l:=[]) (l':=memN (g,0,i,cs,f) N) (m':=QaW (g,0,i,cs,f) M) rfl ?_) rfl);show over (List.replicate (Qam cs 0 65536).toNat 0) M 0=over (List.replicate (max 0 (min cs 65536)).toNat 0) M 0;rw[el]
  ·rename_i t;refine .le (Le.nilH 2 (.int .i64) _ _ R R R) (.le (Le.nilH 2 (.int .u8) _ _ R R R) (.mk [] [4,5] _ R R R R R (Qu (l:=[]) (l':=memN (g,0,i,cs,f) N) (m:=[]) (m':=QaW (g,0,i,cs,f) M) rfl ?_) rfl));show _=over (List.replicate (max 0 (min cs 65536)).toNat 0) M 0;rw[el] at t;have:(max 0 (min cs 65536)).toNat=0:=by omega
   rw[this];rfl
 ·repeat' first|(apply Ea;conv=>whnf)|apply Eb|apply Ec|apply Ed|apply Ee|(apply Ei;intro _)|apply Ef q p
  all_goals(try dsimp only[Qf] at *)
  ·omega
  ·rename_i t;refine .le (Le.nilH 2 (.int .i64) _ _ R R R) (.mk [] [5,4] _ R R R R R (Qu (l:=[]) (l':=memN (g,1,i,cs,f) N) (m':=QaW (g,1,i,cs,f) M) rfl ?_) rfl);show over (List.replicate (Qam cs 0 65536).toNat 0) M 0=over (List.replicate (max 0 (min cs 65536)).toNat 0) M 0;rw[el]
  ·rename_i t;refine .le (Le.nilH 2 (.int .i64) _ _ R R R) (.le (Le.nilH 2 (.int .u8) _ _ R R R) (.mk [] [4,5] _ R R R R R (Qu (l:=[]) (l':=memN (g,1,i,cs,f) N) (m:=[]) (m':=QaW (g,1,i,cs,f) M) rfl ?_) rfl));show _=over (List.replicate (max 0 (min cs 65536)).toNat 0) M 0;rw[el] at t;have:(max 0 (min cs 65536)).toNat=0:=by omega
   rw[this];rfl
 ·have A:1≤Qav (g,2,i,cs,f):=A;have z:Qav (g,2,i,cs,f)≤140737488355328:=z;have D:Qav (g,2,i,cs,f)*Qbf (g,2,i,cs,f)≤140737488355328:=D;have u:1≤Qbf (g,2,i,cs,f):=u;have h8:1*1≤Qav (g,2,i,cs,f)*Qbf (g,2,i,cs,f):=Int.mul_le_mul A u (by omega) (by omega);have ew:i64.wrap (Qav (g,2,i,cs,f)*Qbf (g,2,i,cs,f))=Qav (g,2,i,cs,f)*Qbf (g,2,i,cs,f):=w64 (by omega) (by omega)
  repeat' first|(apply Ea;conv=>whnf)|apply Eb|apply Ec|apply Ed|apply Ee|(apply Ei;intro _)|apply Ef q p
  all_goals(try dsimp only[Qf] at *)
  ·exact hc
  ·refine⟨by show 1≤1000;omega,fun m J=>?_⟩;simp only[Yt,YF,or_false] at J;subst J;show 0<Qav (g,2,i,cs,f)∧Qav (g,2,i,cs,f)≤4611686018427387904;omega
  ·rw[ew];omega
  ·rename_i t;refine .mk [] [5,6] _ R R R R R (Qu (l':=memN (g,2,i,cs,f) N) (m':=QaW (g,2,i,cs,f) M) rfl ?_) rfl;exact QCZ _ M ew
  ·rename_i t;exfalso;have t:¬i64.wrap (Qav (g,2,i,cs,f)*Qbf (g,2,i,cs,f))>0:=t;rw[ew] at t;omega
def Qpf:PSpec:=⟨[gC,gD],fun(c,d,_)=>(some (c.2.1<0∨8<c.2.1),QdC,[.arr (.int .i64) [],.arr (.int .u8) []])⟩
theorem Qrl:G0 58 Qpf.spec:=by
 have p:S0 _:=Qa Qha (Qa QfF (Qa QcT (Qb (T:=tree))));have q:=tabs p Qc;refine Qpf.gd q p Tryz.func58 fun(c:Cv) (d:Dv) r=>?_
 have C:c.2.1<0∨8<c.2.1:=r _ rfl;obtain⟨N,M⟩:=d;clear r;obtain⟨g,j,i,cs,f⟩:=c
 repeat' first|(apply Ea;conv=>whnf)|apply Eb|apply Ec|apply Ed|apply Ee|(apply Ei;intro _)|apply Ef q p
 all_goals(try dsimp only[Qf] at *)
 all_goals first
  |omega
  |exact .le (Le.nilH 2 (.int .i64) _ _ R R R) (.le (Le.nilH 2 (.int .u8) _ _ R R R) (.k [] [4,5] _ R R))
  |skip
 all_goals trace_state
theorem Qkp{M:List Int}(h:u8s M)(n:Nat):u8s (M.take n):=fun x y=>h x (Jo y)
theorem QKu{M:List Int}(h:u8s M):u8s (dM M):=Qkp h _
theorem QFM(N:List Int){M:List Int}(h:u8s M):DOk (qF M) (dN N (qF M),dM M):=⟨Qty N _,QhX M,QKu h⟩
theorem Ql1{l m:List Int}(h:l.length=10)(B:¬l.getD 2 0>0):Qay (l,m)=(l,m):=by
 match l,h with
 | [k,t,c,s,i,l,d,r,o,x],_ =>
   rw[Qay];exact Yb B
def QxV(k:Int)(s:DS):DS:=Qa9 Qay k.toNat s
def QAT:PSpec:=⟨[gD,gi],fun(d,k,_)=>(some (List.length d.2≤140737488355328∧u8s d.2∧k≤1000000),.agg [.own 0,.own 1],[.arr (.int .i64) (QxV k (dN d.1 (qF d.2),dM d.2)).1,.arr (.int .u8) (QxV k (dN d.1 (qF d.2),dM d.2)).2])⟩
theorem QxW:G0 162 QAT.spec:=by
 have C:S0 _:=Qa Qe3 (Qa QCO (Qb (T:=tree)));have D:=tabs C Qc;refine QAT.gd D C Tryz.func162 fun(d:Dv) (k:Int) hp=>?_
 obtain⟨N,M⟩:=d;obtain⟨J,hu,z⟩:M.length≤140737488355328∧u8s M∧k≤1000000:=hp _ rfl;have hn:=QFM N hu;clear hp
 repeat' first|(apply Ea;conv=>whnf)|apply Eb|apply Ec|apply Ed|apply Ee|(apply Ei;intro _)|apply Ef D C
 all_goals first
  |exact J
  |exact Ya rfl
  |skip
 refine Q4 D C (X:=Int×DS) (fun(n,s)=>St.mk (E1 ((I n)::E2 ((.cell (.ptr 0 0))::(.cell (.own 1))::(.cell (.own 2))::E40 (E10 [])))) [some (.var [.imm (.slice none 0 0),.imm (.slice none 0 0)]),some (.arr (.int .i64) s.1),some (.arr (.int .u8) s.2)])
  (fun(n,s)=>DOk (qF M) s∧Qa9 Qay n.toNat s=QxV k (dN N (qF M),dM M)∧n≤1000000) (fun(n,_)=>n.toNat) (k,(dN N (qF M),dM M)) (Le.k [] [1,2,3] ?_) ?_ fun(n,s) A=>?_
 ·repeat' constructor
 ·exact⟨hn,rfl,z⟩
 obtain⟨l,m⟩:=s;obtain⟨⟨g,b,a⟩,j,hk'⟩:=A;have b:m.length=qF M*256:=b;have a:u8s m:=a;have g:dOk (qF M) l:=g;have hD:DOk (qF M) (l,m):=⟨g,b,a⟩
 cases g with
 |mk z E B F A J K G H y =>
 rename_i k t c s i l d r o x
 repeat' first|(apply Ea;conv=>whnf)|apply Eb|apply Ec|apply Ed|apply Ee|(apply Ei;intro _)|apply Ef D C
 all_goals first
  |exact Ya rfl
  |skip
 all_goals clear D C
 all_goals(try simp only[Qf] at *)
 all_goals(try simp only[Int.reduceToNat,List.set_cons_succ,Ji,List.getD_cons_succ,List.getD_cons_zero] at *)
 ·rename_i u f q p;have e:=(Qtz (t:=t) (s:=s) (i:=i) (l:=l) (d:=d) (r:=r) (o:=o) (x:=x) (m:=m) (c:=c) (k:=k) (n:=n.toNat) (by omega) p (by omega)).symm.trans j;exact .mk [] [1,2] _ R R R R R (Qnw (Yv Prod.fst e) (Yv Prod.snd e)) rfl
 ·rename_i u f q p L;have e:=(QfD (t:=t) (s:=s) (i:=i) (d:=d) (r:=r) (o:=o) (x:=x) (m:=m) (c:=c) (k:=k) f (fun h=>p h.2) n.toNat l (by omega)).symm.trans j;rw[show l-(n.toNat:Int)=i64.wrap (l-n) by rw[w64 (by omega) (by omega)];omega] at e;exact .mk [] [1,2] _ R R R R R (Qnw (Yv Prod.fst e) (Yv Prod.snd e)) rfl
 ·rename_i u f q p L;exact⟨⟨qF M,⟨z,E,B,F,A,by omega,K,G,H,y⟩,b,a⟩,f,fun _=>by show 0<k;omega,rfl⟩
 ·rename_i u f q p L;have w:DOk (qF M) ([k,t,c,s,i,0,d,r,o,x],m):=⟨⟨z,E,B,F,A,by omega,K,G,H,y⟩,b,a⟩
  have e:=(QlX (t:=t) (s:=s) (i:=i) (l:=l) (d:=d) (r:=r) (o:=o) (x:=x) (m:=m) (c:=c) (k:=k) (n:=n.toNat) f (fun h=>p h.2) J.1 (by omega) (by omega)).symm.trans j;have e2:i64.wrap (n-imax 1 l)=(n.toNat:Int)-max 1 l:=by rw[Q8,w64 (by omega) (by omega)];omega
  apply Yw (_,_,_);refine Yo ?_ (Yo ?_ (Le.k [] [0,1,2] ?hh))
  case hh=>repeat' constructor
  ·refine⟨Qkl w,?_,?_⟩
   ·show Qa9 Qay (i64.wrap (n-imax 1 l)).toNat (QgY ([k,t,c,s,i,0,d,r,o,x],m))=_;rw[e2];exact e
   ·show i64.wrap (n-imax 1 l)≤1000000;rw[e2];omega
  ·show(i64.wrap (n-imax 1 l)).toNat<n.toNat;rw[e2];omega
 ·rename_i u f q p;have e:=(QfD (t:=t) (s:=s) (i:=i) (d:=d) (r:=r) (o:=o) (x:=x) (m:=m) (c:=c) (k:=k) f (fun h=>q (by omega)) n.toNat l (by omega)).symm.trans j;rw[show l-(n.toNat:Int)=i64.wrap (l-n) by rw[w64 (by omega) (by omega)];omega] at e;exact .mk [] [1,2] _ R R R R R (Qnw (Yv Prod.fst e) (Yv Prod.snd e)) rfl
 ·rename_i u f q p;exact⟨⟨qF M,⟨z,E,B,F,A,by omega,K,G,H,y⟩,b,a⟩,f,fun h=>YD h (by show¬2<c;omega),rfl⟩
 ·rename_i u f q L;have w:DOk (qF M) ([k,t,c,s,i,0,d,r,o,x],m):=⟨⟨z,E,B,F,A,by omega,K,G,H,y⟩,b,a⟩
  have e:=(QlX (t:=t) (s:=s) (i:=i) (l:=l) (d:=d) (r:=r) (o:=o) (x:=x) (m:=m) (c:=c) (k:=k) (n:=n.toNat) f (fun h=>q (by omega)) J.1 (by omega) (by omega)).symm.trans j;have e2:i64.wrap (n-imax 1 l)=(n.toNat:Int)-max 1 l:=by rw[Q8,w64 (by omega) (by omega)];omega
  apply Yw (_,_,_);refine Yo ?_ (Yo ?_ (Le.k [] [0,1,2] ?hh))
  case hh=>repeat' constructor
  ·refine⟨Qkl w,?_,?_⟩
   ·show Qa9 Qay (i64.wrap (n-imax 1 l)).toNat (QgY ([k,t,c,s,i,0,d,r,o,x],m))=_;rw[e2];exact e
   ·show i64.wrap (n-imax 1 l)≤1000000;rw[e2];omega
  ·show(i64.wrap (n-imax 1 l)).toNat<n.toNat;rw[e2];omega
 ·rename_i u f;have e:=(QlW (t:=t) (s:=s) (i:=i) (l:=l) (d:=d) (r:=r) (o:=o) (x:=x) (m:=m) (c:=c) (k:=k) f n.toNat).symm.trans j;exact .mk [] [1,2] _ R R R R R (Qnw (Yv Prod.fst e) (Yv Prod.snd e)) rfl
 ·rename_i u;rw[show n.toNat=0 by omega,Qa9] at j;exact .mk [] [1,2] _ R R R R R (Qnw (Yv Prod.fst j) (Yv Prod.snd j)) rfl
def Qwr(b:List Int):Bool:=decide (Qg0 b<0∨Qg0 b>(Qja b).length)
def QBU:WSpec:=⟨List Int×Bool,fun _=>[.c (.ptr 0 0)],fun x=>[.var [.ro (.int .u8) x.1,bv x.2]],QqA,
 fun(b,bad)=>(some (u8s b∧b.length≤4611686018427387904),I (if Qwr b=true then 0 else Qg0 b),[some (.var [.ro (.int .u8) (Qja b),bv (if Qwr b=true then true else Qss b bad)])],[])⟩
theorem QEw:G0 165 QBU.spec:=by
 have a:S0 _:=Qa Qwq (Qb (T:=tree));have d:=tabs a Qc;refine QBU.gd d a Tryz.func165 (fun _ _ _ h=>QmN h) fun((b,bad):List Int×Bool) f=>?_
 have hu:u8s b∧b.length≤4611686018427387904:=f _ rfl;clear f
 repeat' first|(apply Ea;conv=>whnf)|apply Eb|apply Ec|apply Ed|apply Ee|(apply Ei;intro _)|apply Ef d a|apply Eg d a
 all_goals first
  |exact Ya rfl
  |exact hu
  |skip
 all_goals clear d a
 ·rename_i h;have h:Qg0 b<0:=h;have e:Qwr b=true:=Yl (.inl h);exact .mk [] [0] _ R R R R R (QjJ rfl (by rw[e];rfl)) (Qd (by rw[e];rfl))
 ·rename_i g h;have h:Qg0 b>((Qja b).length:Int):=h;have e:Qwr b=true:=Yl (.inr h);exact .mk [] [0] _ R R R R R (QjJ rfl (by rw[e];rfl)) (Qd (by rw[e];rfl))
 ·rename_i g h;have g:¬Qg0 b<0:=g;have h:¬Qg0 b>((Qja b).length:Int):=h;have e:Qwr b=false:=Yn (by omega);exact .mk [] [0] _ R R R R R (QjJ rfl (by rw[e];rfl)) (Qd (by rw[e];rfl))
def QmO:List Int:=[128,1,0,0,0,0,0,0,0,0,0,0,0,0,0,0,0,0]
def QBV:PSpec:=⟨[gb],fun(b,_)=>(some (b=QmO),.tup [.agg [iv .i64 64,.run .i64 9 [0,0,0,0,0,0,0,0,0],iv .i64 0,iv .i64 0,bv false,.imm (.slice none 0 0),iv .i64 0,iv .i64 0,iv .i64 0],.c (iv .i64 0)],[])⟩
theorem Qz3:G0 90 QBV.spec:=by
 have a:S0 _:=Qa Qwq (Qa QEw (Qb (T:=tree)));have d:=tabs a Qc;refine QBV.gd d a Tryz.func90 fun(b:List Int) f=>?_
 obtain rfl:b=QmO:=f _ rfl;clear f
 repeat' first|(apply Ea;conv=>whnf)|apply Eb|apply Ec|apply Ed|apply Ee|(apply Ei;intro _)|apply Ef d a|apply Eg d a
 all_goals first
  |exact Ya rfl
  |skip
 refine QP 10 ?_
 repeat' first|(apply Ea;conv=>whnf)|apply Eb|apply Ec|apply Ed|apply Ee|(apply Ei;intro _)|apply Ef d a|apply Eg d a
 all_goals first
  |exact Ya rfl
  |skip
 refine QA d a 0 (fun i (_:Unit)=>St.mk (E2 ((.cell (.ptr 0 0))::E1 ((.cell (.ptr 1 0))::(.cell (.ptr 2 0))::E1 ((I 0)::E40 (E5 ((I 0)::(I i)::E40 (E20 (E1 []))))))))
  [some (.var [iv .i64 0,.run .i64 9 [0,0,0,0,0,0,0,0,0],iv .i64 0,iv .i64 0,bv false,.imm (.slice none 0 0),iv .i64 0,iv .i64 0,iv .i64 0]),some (.var [.ro (.int .u8) [],bv false]),
   some (.var [iv .i64 64,.run .i64 9 [0,0,0,0,0,0,0,0,0],iv .i64 0,iv .i64 0,bv false,.imm (.slice none 0 0),iv .i64 0,iv .i64 0,iv .i64 0])])
  (fun k _=>True) () (Le.k [] [0,1,2] ?_) trivial fun k _ hk _=>?_
 ·repeat' constructor
 obtain rfl:k=0:=by omega
 repeat' first|(apply Ea;conv=>whnf)|apply Eb|apply Ec|apply Ed|apply Ee|(apply Ei;intro _)|apply Ef d a|apply Eg d a
 all_goals first
  |exact Ya rfl
  |skip
 exact .k [] [] _ R R
def QHO(h:List Int)(ds:List Dv):Mach:=(h.getD 0 0,((h.drop 1).take 9,h.getD 10 0,h.getD 11 0,decide (h.getD 12 0=1)),ds,h.getD 13 0,h.getD 14 0,h.getD 15 0)
def fin(h:List Int):Option (List Dv×List Int)→Option Mach
 |none=>none
 |some (ds,r)=>if r.length>0 then none else if h.getD 12 0=0∨h.getD 12 0=1 then some (QHO h ds) else none
def QHV:Mach:=(64,([0,0,0,0,0,0,0,0,0],0,0,false),[],0,0,0)
theorem Qz7:QcY QHV:=by
 refine⟨fun n a=>?_,fun d hd=>(by cases hd),rfl,by decide⟩;have a:n∈[64,0,0,0,0,0,0,0,0,0,0,0,(0:Int),0,0,0,0]:=a;simp at a;unfold Q1;omega
theorem Qz8:Qmr QHV=QmO:=by
 have e64:QbO 64=[128,1]:=by
  unfold QbO zig;rw[Yb (by omega),Qcy (by decide),QbN (by decide)];rfl
 have e0:QbO 0=[0]:=by
  unfold QbO zig;rw[Yb (by omega),QbN (by decide)];rfl
 show Qz [64,0,0,0,0,0,0,0,0,0,0,0,(0:Int),0,0,0,0]++[]=QmO;simp[Qz,e64,e0,QmO]
def QBY:PSpec:=⟨[],fun _=>(none,.cell (bv true),[])⟩
theorem QqE:G0 37 QBY.spec:=by
 have b:S0 _:=Qa Qz0 (Qa Qz3 (Qb (T:=tree)));have hT:=tabs b Qc;refine QBY.gd hT b Tryz.func37 fun _=>?_
 repeat' first|(apply Ea;conv=>whnf)|apply Eb|apply Ec|apply Ed|apply Ee|(apply Ei;intro _)|apply Ef hT b
 all_goals first
  |exact Qz7
  |exact Qz8
  |exact Ya rfl
  |exact .k [] [] _ R R
  |skip
 all_goals trace_state
end Go.Proofs.YtofgbclopbmlcaaGreat

namespace Go.Fw
open Go.IntKind (i64)
set_option maxHeartbeats 8000000
open Go.ChangeShapes Go.WideShapes Go.RowKit
set_option linter.unusedVariables false
set_option linter.unusedSimpArgs false
def Qn7(P:Program)(m:Nat)(g:Sig)(t:TypeId):Bool:=Qbj P m g.t t&&match P.underlying t with
 |some (.struct _)=>g.ag
 |some (.int _)=>!g.ag
 |some .bool=>!g.ag
 |some .string=>!g.ag
 |some (.slice _)=>!g.ag
 |some (.array _ _)=>g.ag
 |_=>false
def Qk8(P:Program)(m:Nat):List Sig→List TypeId→Bool
 | [],[]=>true
 |g::gs,t::ts=>Qn7 P m g t&&Qk8 P m gs ts
 |_,_=>false
def WfA:(gs:List Sig)→Args gs→Prop
 | [],_=>True
 |g::gs,x=>Wf g.t x.1∧WfA gs x.2
section
variable {H:Type} {enc:TypeId×Value→H} {P:Program} {w:World} {base:Nat}
theorem CR.one{w:World}{S:Nat→Prop}{t:Ty}{d:Den t}{v:Value}(hc:CR w S t d [v])(h:(cells t d).length=1)(E:Env)(hw:E.w=w)(hS:E.S=S):∃c,cells t d=[c]∧QaI E c [v]:=by
 subst hw;subst hS;have:=hc.items
 match hh:cells t d,h with
 | [c],_ =>
   rw[hh] at this;obtain⟨r,s,e,h1,h2⟩:=this;simp only[IR] at h2;subst h2;simp at e;subst e;exact⟨c,rfl,h1⟩
variable {bk:DataW H→Nat} {ba:List (DataW H)→Nat}
theorem QEC(B:BulkLaw bk ba){m fuel:Nat}{g:Sig}{t:TypeId}{v:Value}{x:DataW H×List MemPlace}(hf:Qn7 P m g t=true)(hv:Value.okWide P w .any base t v)(hz:∀z∈DataW.weights P t x.1,z≤reachBytes)
 (h:DataW.trod enc P w 0 (fun _=>true) true fuel t v.cells.toList=some x):∃d:Den g.t,V1R (QdM w) (QcJ g d) v∧Wf g.t d∧bd g.t d≤bk x.1:=by
 unfold Qn7 at hf;rw[Yj] at hf;obtain⟨h1,h2⟩:=hf;obtain⟨d,hc,hw,hb⟩:=Qnr B m h1 hz h;refine⟨d,?_,hw,hb⟩
 have single:∀u,v=u→(∀cs,v≠.agg cs)→g.ag=false→(cells g.t d).length=1→V1R (QdM w) (QcJ g d) v:=by
  intro u e hn hg hl
  have hcl:v.cells.toList=[v]:=by
   cases v with
   |agg cs=>exact YD rfl (hn cs)
   |_=>rfl
  rw[hcl] at hc;obtain⟨c,e1,e2⟩:=hc.one hl (QdM w) rfl rfl;unfold QcJ;rw[hg];simp only[e1];exact e2
 cases m with
 |zero=>cases h1
 |succ m =>
 unfold Qbj at h1;split at h2
 ·rename_i F hu;obtain⟨cs,rfl,_⟩:=okWide_struct hu hv;unfold QcJ;rw[h2];exact⟨cs,rfl,hc.items (E:=QdM w)⟩
 ·rename_i k hu;obtain⟨n,rfl⟩:=okWide_int hu hv;refine single _ rfl (by simp) (by simpa using h2) ?_;rw[hu] at h1
  match g,d,h1 with
  |⟨_,.int _⟩,_,_=>rfl
 ·rename_i hu;obtain⟨n,rfl⟩:=okWide_bool hu hv;refine single _ rfl (by simp) (by simpa using h2) ?_;rw[hu] at h1
  match g,d,h1 with
  |⟨_,.bool⟩,_,_=>rfl
 ·rename_i hu;obtain⟨n,rfl⟩:=okWide_string hu hv;refine single _ rfl (by simp) (by simpa using h2) ?_;rw[hu] at h1
  match g,d,h1 with
  |⟨_,.str⟩,_,_=>rfl
 ·rename_i e hu;obtain⟨a,len,cap,rfl⟩:=okWide_slice hu hv;refine single _ rfl (by simp) (by simpa using h2) ?_;rw[hu] at h1
  match g,d,h1 with
  |⟨_,.sl _⟩,_,_=>rfl
 ·rename_i n e hu
  obtain⟨cs,rfl⟩:∃cs,v=.agg cs:=by
   simp only[Value.okWide,hu] at hv;obtain⟨cs,h1,_⟩:=hv;exact⟨cs,h1⟩
  unfold QcJ;rw[h2];exact⟨cs,rfl,hc.items (E:=QdM w)⟩
 ·cases h2
def bdA:(gs:List Sig)→Args gs→Nat
 | [],_=>0
 |g::gs,x=>bd g.t x.1+bdA gs x.2
theorem QmR(B:BulkLaw bk ba){m:Nat}{vt:List TypeId}{gds:List (DataW H)}:∀{gs:List Sig} {ts:List TypeId} {vs:List Value} {ds:List (DataW H)} {ps:List MemPlace},Qk8 P m gs ts=true →
 (∀(j:Nat) t v,ts[j]?=some t→vs[j]?=some v→Value.okWide P w .any base t v)→(∀z∈DataW.weightsEach P (ts++vt) (ds++gds),z≤reachBytes) →
 DataW.TrodAll enc P w 0 (fun _=>true) true ts vs ds ps→∃xs:Args gs,VsR (QdM w) (QaO gs xs) vs∧WfA gs xs∧bdA gs xs≤ba ds
 | [],[],vs,ds,ps,_,_,_,h=>by
   obtain⟨rfl,rfl,rfl⟩:=trodAll_nil h;exact⟨(),rfl,trivial,YR _⟩
 |g::gs,t::ts,vs,ds,ps,hf,hv,hz,h=>by
  unfold Qk8 at hf;rw[Yj] at hf;obtain⟨v,vs',d,ds',p,q,rfl,rfl,rfl,⟨fuel,h1⟩,h2⟩:=trodAll_cons h;rw[List.cons_append,List.cons_append,DataW.weightsEach] at hz;obtain⟨x,hx,wx,bx⟩:=QEC B (x:=(d,p)) hf.1 (hv 0 t v rfl rfl) (fun z hz'=>hz z (YN.2 (.inl hz'))) h1;obtain⟨xs,hxs,wxs,bxs⟩:=QmR B hf.2 (fun j t v ht hvj=>hv (j+1) t v (by simpa using ht) (by simpa using hvj)) (fun z hz'=>hz z (YN.2 (.inr hz'))) h2;exact⟨(x,xs),VsR.cons hx hxs,⟨wx,wxs⟩,YG (Nat.add_le_add bx bxs) (B.cons _ _)⟩
 | [],_::_,_,_,_,hf,_,_,_=>by cases hf
 |_::_,[],_,_,_,hf,_,_,_=>by cases hf
theorem QiN{look:Nat→Option Blk}:∀(t:Ty) (x:Den t) (r:List Cell),dec look t (cells t x++r)=some (x,[],r)
 |.int k,x,r=>by simp[cells,dec]
 |.ints k n,l,r=>by simp[cells,dec]
 |.bool,b,r=>rfl
 |.str,s,r=>rfl
 |.sl t,l,r=>by
  have:QsF look t (.ro t l)=some l:=by
   unfold QsF;simp only[Qax,QE8,dif_pos,Qga]
  simp only[cells,List.cons_append,List.nil_append,dec,this,QI4]
 |.pair a b,x,r=>by
  simp only[cells,dec,Yy,QiN a x.1,QiN b x.2,Jd]
theorem QgU{look:Nat→Option Blk}(t:Ty)(x:Den t):Qca look t (cells t x)=some (x,[]):=by
 unfold Qca;have:=QiN (look:=look) t x [];rw[Jd] at this;rw[this]
def Sig.fine(g:Sig):Bool:=g.ag||match g.t with|.int _=>true|.bool=>true|.str=>true|.sl _=>true|_=>false
theorem Qsx{g:Sig}(h:g.fine=true)(d:Den g.t):QAB g (QcJ g d)=some d:=by
 obtain⟨ag,t⟩:=g;cases ag with
 |true =>
  unfold QAB QcJ;simp only[QgU]
 |false =>
  have one:∃c,cells t d=[c]:=by
   cases t<;>simp[Sig.fine] at h<;>exact⟨_,rfl⟩
  obtain⟨c,hc⟩:=one;have e:QcJ ⟨false,t⟩ d=.c c:=by unfold QcJ;simp only[hc]
  have e2:Qca (fun _=>none) t [c]=some (d,[]):=by rw[←hc];exact QgU t d
  unfold QAB;simp only[e,e2,hc]
theorem Qf2:∀{gs:List Sig} (h:gs.all Sig.fine=true) (xs:Args gs),Qdx gs (QaO gs xs)=some xs
 | [],_,()=>rfl
 |g::gs,h,(a,r)=>by
  rw[List.all_cons,Yj] at h;show(match QAB g (QcJ g a) with|some d=>(match Qdx gs (QaO gs r) with|some r=>some (d,r)|none=>none)|none=>none)=_;rw[Qsx h.1,Qf2 h.2]
def Qk9(P:Program)(ts:List TypeId):Bool:=ts.all fun t=>P.readableRec t&&Nat.blt t P.types.size
theorem QmS{W W':World}(hl:laidOutB P=true)(hb:Below W.heap.size W W'):∀{ts:List TypeId} {vs:List Value} {ds:List (DataW H)} {ps:List MemPlace},Qk9 P ts=true→(∀x∈ps,x.block<W.heap.size) →
 DataW.TrodAll enc P W 0 (fun _=>true) true ts vs ds ps→DataW.TrodAll enc P W' 0 (fun b=>decide (b<W.heap.size)) true ts vs ds ps
 | [],vs,ds,ps,_,_,h=>by
   obtain⟨rfl,rfl,rfl⟩:=trodAll_nil h;exact trodAll_mk0
 |t::ts,vs,ds,ps,hf,hlt,h=>by
  unfold Qk9 at hf;rw[List.all_cons,Yj,Yj] at hf;obtain⟨v,vs',d,ds',p,q,rfl,rfl,rfl,h1,h2⟩:=trodAll_cons h;exact trodAll_cons_mk (Below.trod hl hf.1.1 (by simpa[Nat.blt_eq] using hf.1.2) h1 hb fun x hx=>hlt x (YN.2 (.inl hx))) (QmS hl hb hf.2 (fun x hx=>hlt x (YN.2 (.inr hx))) h2)
end
theorem PSpec.law_upto{P:Program}{H:Type}{enc:TypeId×Value→H}{f:FuncId}{s:PSpec}(h:QR P f s.spec){W:World}{base m N:Nat}{ts vt:List TypeId}{args:Array Value}{ds gds:List (DataW H)}{p:List MemPlace}
 {bk:DataW H→Nat} {ba:List (DataW H)→Nat} (B:BulkLaw bk ba) (hN:ba ds≤N)
 (hfit:Qk8 P m s.gs ts=true) (hfine:s.gs.all Sig.fine=true) (hrow:Qk9 P ts=true) (hl:laidOutB P=true)
 (hval:∀(j:Nat) t v,ts[j]?=some t→args.toList[j]?=some v→Value.okWide P W .any base t v)
 (hz:(DataW.weightsEach P (ts++vt) (ds++gds)).all (·≤reachBytes)=true) (hA:DataW.TrodAll enc P W 0 (fun _=>true) true ts args.toList ds p)
 (hs:∀xs,WfA s.gs xs→bdA s.gs xs≤N→∃q,s.out xs=(q,.cell (bv true),[])∧∀z,q=some z→z) :
 Calls P f args W fun e w'=>e=.returned (.bool true)∧Below W.heap.size W w'∧DataW.TrodAll enc P w' 0 (fun b=>decide (b<W.heap.size)) true ts args.toList ds p:=by
 obtain⟨xs,hv,hw,hbd⟩:=QmR B hfit hval (fun z hz'=>by simpa using List.all_eq_true.1 hz z hz') hA;obtain⟨q,h1,h2⟩:=hs xs hw (YG hbd hN);refine(PSpec.law h xs hv (Qf2 hfine xs) h1 h2).mono fun e W' ⟨he,hb⟩=>⟨he,hb,?_⟩
 exact QmS hl hb hrow (DataW.TrodAll.lt hA) hA
end Go.Fw

namespace Go.Proofs.YtofgbclopbmlcaaGreat
open Go.IntKind (i64)
set_option maxHeartbeats 8000000
open Go.Fw
set_option linter.unusedVariables false
set_option linter.unusedSimpArgs false
open Go.ChangeShapes Go.WideShapes in
theorem Qc3{x:Int}(h:(Lit.int .i64 x).wf=true):Q1 x:=by
 have:-9223372036854775808≤x∧x≤9223372036854775807:=by simpa[Lit.wf,IntKind.min,IntKind.max,IntKind.signed,IntKind.bits] using h
 exact this
theorem Qf3{k:IntKind}(l:List Int):(List.map (bd (.int k)) l).sum=l.length:=by
 induction l with
 |nil=>rfl
 |cons x r ih =>
  show bd (.int k) x+(List.map (bd (.int k)) r).sum=_;rw[ih,Yx];show 1+r.length=r.length+1;omega
theorem QHY(d:Dv):QaR d≤10*bd Qh d:=by
 have e:bd Qh d=((List.map (bd (.int .i64)) d.1).sum+1)+((List.map (bd (.int .u8)) d.2).sum+1):=rfl;rw[e,Qf3,Qf3];unfold QaR;omega
theorem QED(ds:List Dv):(ds.map QaR).sum≤10*(List.map (bd Qh) ds).sum:=by
 induction ds with
 |nil=>simp
 |cons x r ih =>
  have:=QHY x;show QaR x+(r.map QaR).sum≤10*(bd Qh x+(List.map (bd Qh) r).sum);omega
theorem QAa{m:Mach}(h:Wf Qt m)(hb:bd Qt m≤1048576):QcY m:=by
 obtain⟨tm,⟨r,op,at_,b⟩,ds,b1,b2,b3⟩:=m;obtain⟨w1,⟨⟨w2,w3⟩,w4,w5,_⟩,⟨w6,w7⟩,w8,w9,w10⟩:=h;have e:bd Qt (tm,(r,op,at_,b),ds,b1,b2,b3)=1+((9+(1+(1+1)))+(((List.map (bd Qh) ds).sum+1)+(1+(1+1)))):=rfl;rw[e] at hb;have h1:=QED ds;have h2:=QfP ds;refine⟨?_,fun d hd n a=>Qc3 ((w7 d hd).1.2 n a),w2,by show(ds.map QaR).sum≤_;omega⟩;intro n a;have a:n∈[tm]++r++[op,at_,cond b 1 0,b1,b2,b3,(ds.length:Int)]:=a;rcases YN.1 a with a|a
 ·rcases YN.1 a with a|a
  ·rw[Jl] at a;subst a;exact Qc3 w1
  ·exact Qc3 (w3 n a)
 ·simp only[Yt,YF,or_false] at a;rcases a with rfl|rfl|rfl|rfl|rfl|rfl|rfl
  ·exact Qc3 w4
  ·exact Qc3 w5
  ·cases b<;>(unfold Q1;decide)
  ·exact Qc3 w8
  ·exact Qc3 w9
  ·exact Qc3 w10
  ·unfold Q1;omega
theorem Qn8{α:Type}(m:α→Nat):∀{l:List α} {x:α},x∈l→m x≤(l.map m).sum
 | [],_,h=>by cases h
 |y::r,x,h=>by
  rw[Jb,List.sum_cons];rcases Yt.1 h with rfl|h
  ·omega
  ·have:=Qn8 m h;omega
theorem Qhp{l:List Cyc}(h:Wf (.sl Qp) l):Qb9 l:=⟨h.1,fun x a=>(h.2 x a).2.2.2.1⟩
theorem Qn9{c:Cpu}(h:Wf QDt c):QrU c∧(Qb9 c.2.2.1∧Qb9 c.2.2.2.1∧Qb9 c.2.2.2.2) :=
 ⟨⟨h.2.1.1,fun x a=>Qhp (h.2.1.2 x a).2.2.2⟩,Qhp h.2.2.1,Qhp h.2.2.2.1,Qhp h.2.2.2.2⟩
theorem QAb{c:Cpu}{k:Kor}(hk:k.1.length=9)(h:Wf QDt c):Qbc c k:=⟨(Qn9 h).1,(Qn9 h).2,hk⟩
set_option maxRecDepth 100000
theorem QvO{q:Nat}{s:DS}(h:DOk q s):(dN s.1 (qF s.2),dM s.2)=s:=by
 obtain⟨l,m⟩:=s;obtain⟨b,a,h3⟩:=h;have b:dOk q l:=b;have a:m.length=q*256:=a;have e:qF m=q:=by unfold qF;omega
 show(dN l (qF m),dM m)=(l,m)
 have e2:dM m=m:=by unfold dM;rw[e,←a,List.take_length]
 rw[e,QCM b,e2]
end Go.Proofs.YtofgbclopbmlcaaGreat

