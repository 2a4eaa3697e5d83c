/- Part 31 of the proof. Conditions: none. -/
import Derived.Test.YtofgbclopbmlcaaGreatG30
import Derived.Test.YtofgbclopbmlcaaGreatG18
import Derived.Test.YtofgbclopbmlcaaGreatG19
namespace Go.Proofs.YtofgbclopbmlcaaGreat
open Go.IntKind (i64)
open Go.Fw
set_option linter.unusedVariables false
set_option linter.unusedSimpArgs false
set_option maxRecDepth 100000
abbrev Qdv:AV:=.agg [.own 0,.own 1]
theorem QB1{a b c d:Int}(h1:a=c)(h2:b=d):AV.tup [I1 a,I1 b,.c (.own 0)]=AV.tup [I1 c,I1 d,.c (.own 0)]:=by rw[h1,h2]
theorem Qdw{l l' m m':List Int}(h:l=l')(h2:m=m'):[some (Blk.arr (.int .i64) l),some (Blk.arr (.int .u8) m)]=[some (Blk.arr (.int .i64) l'),some (Blk.arr (.int .u8) m')]:=by rw[h,h2]
theorem QB2{x:Int}(h0:0≤x)(h1:x<256):IntKind.u8.wrap x=x:=by
 show x%256=x;omega
theorem QhN{x y:Int}(h2:x=y):AV.tup [.agg [.own 0,.own 1],I1 x]=AV.tup [.agg [.own 0,.own 1],I1 y]:=by rw[h2]
def QEG:PSpec:=⟨[gD],fun(d,_)=>(none,.tup [I1 (vP d.1),I1 (vH d.1),.c (.own 0)],[.arr (.int .u8) (vM d.2)])⟩
theorem QhO:G0 223 QEG.spec:=by
 have hP:S0 _:=Qa QN (Qb (T:=tree));have hT:=tabs hP Qc;refine QEG.gd hT hP Tryz.func223 fun(d:Dv) _=>?_
 obtain⟨N,M⟩:=d
 repeat' first|(apply Ea;conv=>whnf)|apply Eb|apply Ec<;>intro _|apply Ed<;>intro _|apply Ee<;>intro _|apply Ef hT hP
 all_goals first
  |exact of_decide_eq_true rfl
  |(rename_i h
    have h:(N.length:Int)>0:=h;show(0:Int)≤0∧(0:Int)<N.length
    omega)
  |(rename_i h
    have h:(N.length:Int)>1:=h;show(0:Int)≤1∧(1:Int)<N.length
    omega)
  |(rename_i h2 h
    have h:(N.length:Int)>1:=h;have h2:¬(N.length:Int)>0:=h2
    exfalso;omega)
  |skip
 ·rename_i h2 h;have h2:(N.length:Int)>0:=h2;refine .k [] [1] _ rfl (QB1 ?_ ?_)
  ·show Int.tmod (i64.wrap (Int.tmod (N.getD 0 0) 2560+2560)) 2560=vP N;rw[QoJ _ (by omega) (by omega),vP,if_neg (by omega)]
  ·exact rfl
 ·rename_i h2 h;have h2:(N.length:Int)>0:=h2;have h:¬(N.length:Int)>1:=h;have e:N.getD 1 0=0:=by simp only[List.getD_eq_getElem?_getD];rw[List.getElem?_eq_none (by omega)];rfl
  refine .k [] [1] _ rfl (QB1 ?_ ?_)
  ·show Int.tmod (i64.wrap (Int.tmod (N.getD 0 0) 2560+2560)) 2560=vP N;rw[QoJ _ (by omega) (by omega),vP,if_neg (by omega)]
  ·show 0=N.getD 1 0%2;rw[e];rfl
 ·rename_i h2 h;have h2:¬(N.length:Int)>0:=h2;have e:N.getD 1 0=0:=by simp only[List.getD_eq_getElem?_getD];rw[List.getElem?_eq_none (by omega)];rfl
  refine .k [] [1] _ rfl (QB1 ?_ ?_)
  ·show 2559=vP N;rw[vP,if_pos (by omega)]
  ·show 0=N.getD 1 0%2;rw[e];rfl
def Qtk:WSpec:=⟨Int×Int×List Int,fun x=>[.c (iv .i64 x.1),.c (iv .i64 x.2.1),.c (.own 0)],fun x=>[.arr (.int .u8) x.2.2],
 fun a b=>(match a,b with| [.c (.imm (.int .i64 p)),.c (.imm (.int .i64 h)),.c (.own 0)],[.arr (.int .u8) m]=>some (p,h,m)|_,_=>none),
 fun x=>(none,.agg [.own 1,.own 0],[some (.arr (.int .u8) x.2.2)],[.arr (.int .i64) [x.1,x.2.1]])⟩
theorem QgW:G0 198 Qtk.spec:=by
 have hP:S0 _:=(Qb (T:=tree))
 have hT:=tabs hP Qc;refine Qtk.gd hT hP Tryz.func198 ?_ fun((p,h,m):Int×Int×List Int) _=>?_
 ·intro a b x h;simp only[Qtk] at h;split at h
  ·injection h with h;subst h;exact⟨rfl,rfl⟩
  ·cases h
 repeat' first|(apply Ea;conv=>whnf)|apply Eb|apply Ec<;>intro _|apply Ed<;>intro _|apply Ee<;>intro _|apply Ef hT hP
 all_goals first
  |exact of_decide_eq_true rfl
  |exact .k [] [0,2] _ R R
def QEH:PSpec:=⟨[],fun _=>(none,Qdv,[.arr (.int .i64) [2559,0],.arr (.int .u8) (List.replicate 32 0)])⟩
theorem QB3:G0 113 QEH.spec:=by
 have hP:S0 _:=Qa QgW (Qb (T:=tree));have hT:=tabs hP Qc;refine QEH.gd hT hP Tryz.func113 fun _=>?_
 repeat' first|(apply Ea;conv=>whnf)|apply Eb|apply Ec<;>intro _|apply Ed<;>intro _|apply Ee<;>intro _|apply Ef hT hP
 all_goals first
  |exact of_decide_eq_true rfl
  |exact .k [] [2,1] _ R R
  |skip
def QAb:PSpec:=⟨[gD,gi],fun(d,k,_)=>(some (u8s d.2∧k≤4611686018427387904),Qdv,[.arr (.int .i64) (Qq (QaS (vM d.2)) k.toNat [vP d.1,vH d.1]),.arr (.int .u8) (vM d.2)])⟩
theorem Qxz:G0 160 QAb.spec:=by
 have hP:S0 _:=Qa QgW (Qa QhO (Qa QB0 (Qb (T:=tree))));have hT:=tabs hP Qc;refine QAb.gd hT hP Tryz.func160 fun(d:Dv) (k:Int) hp=>?_
 obtain⟨N,M⟩:=d;obtain⟨hu,hk⟩:u8s M∧k≤4611686018427387904:=hp _ rfl
 repeat' first|(apply Ea;conv=>whnf)|apply Eb|apply Ec<;>intro _|apply Ed<;>intro _|apply Ee<;>intro _|apply Ef hT hP
 all_goals first
  |exact of_decide_eq_true rfl
  |skip
 ·rename_i hg;have hg:k>5120:=hg;have ek:i64.wrap (2560+Int.tmod k 2560)=2560+k%2560:=by rw[Int.tmod_eq_emod_of_nonneg (by omega),w64 (by omega) (by omega)]
  refine Qai hT hP (X:=Int×Int×Int) (fun(i,p,h)=>St.mk (E3 (E1 ((.cell (.ptr 0 0))::(I p)::(I h)::(.cell (.own 1))::E10 (E1 ((I (i64.wrap (2560+Int.tmod k 2560)))::(I i)::E10 (E2 [])))))) [some (.var [.imm (.slice none 0 0),.imm (.slice none 0 0)]),some (.arr (.int .u8) (vM M))])
   (fun(i,p,h)=>∃j:Nat,i=j∧j≤(i64.wrap (2560+Int.tmod k 2560)).toNat∧[p,h]=Qq (QaS (vM M)) j [vP N,vH N]∧0≤p∧p<2560) (fun(i,_)=>((i64.wrap (2560+Int.tmod k 2560))-i).toNat) (0,vP N,vH N) (Le.k [] [1,2] ?_) ?_ fun(i,p,h) hi=>?_
  rotate_right
  repeat' first|(apply Ea;conv=>whnf)|apply Eb|apply Ec<;>intro _|apply Ed<;>intro _|apply Ee<;>intro _|apply Ef hT hP
  rotate_right 2
  ·repeat' constructor
  ·exact⟨0,rfl,Nat.zero_le _,rfl,(Qc4 N).1,(Qc4 N).2⟩
  all_goals
   obtain⟨j,rfl,hj,hl,hp0,hp1⟩:=hi;have hpos:Int.tmod (i64.wrap (p+1)) 2560=(p+1)%2560:=by rw[w64 (by omega) (by omega),Int.tmod_eq_emod_of_nonneg (by omega)]
   have hpos2:0≤Int.tmod (i64.wrap (p+1)) 2560∧Int.tmod (i64.wrap (p+1)) 2560<2560:=by rw[hpos];omega
  ·decide
  ·exact⟨QaN M,Qd1 hu,hpos2.1,hpos2.2⟩
  ·rename_i hh hlt;have hlt:(j:Int)<i64.wrap (2560+Int.tmod k 2560):=hlt;have hh:QgF (vM M) (Int.tmod (i64.wrap (p+1)) 2560)=true:=hh;rw[hpos] at hh;have e:i64.wrap ((j:Int)+1)=((j+1:Nat):Int):=by rw[w64 (by omega) (by omega)];omega
   apply Exists.intro (_,_,_);refine And.intro ?_ (And.intro ?_ (Le.k [] [0,1] ?hh))
   case hh=>repeat' constructor
   ·refine⟨j+1,e,by omega,?_,by rw[hpos];omega,by rw[hpos];omega⟩;rw[QR,←hl,QaS,hh,hpos];rfl
   ·show((i64.wrap (2560+Int.tmod k 2560))-i64.wrap ((j:Int)+1)).toNat<((i64.wrap (2560+Int.tmod k 2560))-(j:Int)).toNat;rw[e];omega
  ·rename_i hh hlt;have hlt:(j:Int)<i64.wrap (2560+Int.tmod k 2560):=hlt;have hh:QgF (vM M) (Int.tmod (i64.wrap (p+1)) 2560)=false:=hh;rw[hpos] at hh;have e:i64.wrap ((j:Int)+1)=((j+1:Nat):Int):=by rw[w64 (by omega) (by omega)];omega
   apply Exists.intro (_,_,_);refine And.intro ?_ (And.intro ?_ (Le.k [] [0,1] ?hh))
   case hh=>repeat' constructor
   ·refine⟨j+1,e,by omega,?_,by rw[hpos];omega,by rw[hpos];omega⟩;rw[QR,←hl,QaS,hh,hpos];rfl
   ·show((i64.wrap (2560+Int.tmod k 2560))-i64.wrap ((j:Int)+1)).toNat<((i64.wrap (2560+Int.tmod k 2560))-(j:Int)).toNat;rw[e];omega
  ·rename_i hlt;have hlt:¬(j:Int)<i64.wrap (2560+Int.tmod k 2560):=hlt;have ej:j=(i64.wrap (2560+Int.tmod k 2560)).toNat:=by omega
   refine .mk [] [2,1] _ R R R R R (Qdw (l:=[p,h]) ?_ rfl) rfl;show _=Qq (QaS (vM M)) k.toNat [vP N,vH N];have en:j=2560+k.toNat%2560:=by rw[ej,ek];omega
   rw[Qs4 (vM M) (Qc4 N) (n:=k.toNat) (by omega),←en];exact hl
 ·rename_i hg;have hg:¬k>5120:=hg
  refine Qai hT hP (X:=Int×Int×Int) (fun(i,p,h)=>St.mk (E3 (E1 ((.cell (.ptr 0 0))::(I p)::(I h)::(.cell (.own 1))::E10 (E1 ((I k)::(I i)::E10 (E2 [])))))) [some (.var [.imm (.slice none 0 0),.imm (.slice none 0 0)]),some (.arr (.int .u8) (vM M))])
   (fun(i,p,h)=>∃j:Nat,i=j∧j≤k.toNat∧[p,h]=Qq (QaS (vM M)) j [vP N,vH N]∧0≤p∧p<2560) (fun(i,_)=>(k-i).toNat) (0,vP N,vH N) (Le.k [] [1,2] ?_) ?_ fun(i,p,h) hi=>?_
  rotate_right
  repeat' first|(apply Ea;conv=>whnf)|apply Eb|apply Ec<;>intro _|apply Ed<;>intro _|apply Ee<;>intro _|apply Ef hT hP
  rotate_right 2
  ·repeat' constructor
  ·exact⟨0,rfl,Nat.zero_le _,rfl,(Qc4 N).1,(Qc4 N).2⟩
  all_goals
   obtain⟨j,rfl,hj,hl,hp0,hp1⟩:=hi;have hpos:Int.tmod (i64.wrap (p+1)) 2560=(p+1)%2560:=by rw[w64 (by omega) (by omega),Int.tmod_eq_emod_of_nonneg (by omega)]
   have hpos2:0≤Int.tmod (i64.wrap (p+1)) 2560∧Int.tmod (i64.wrap (p+1)) 2560<2560:=by rw[hpos];omega
  ·decide
  ·exact⟨QaN M,Qd1 hu,hpos2.1,hpos2.2⟩
  ·rename_i hh hlt;have hlt:(j:Int)<k:=hlt;have hh:QgF (vM M) (Int.tmod (i64.wrap (p+1)) 2560)=true:=hh;rw[hpos] at hh;have e:i64.wrap ((j:Int)+1)=((j+1:Nat):Int):=by rw[w64 (by omega) (by omega)];omega
   apply Exists.intro (_,_,_);refine And.intro ?_ (And.intro ?_ (Le.k [] [0,1] ?hh))
   case hh=>repeat' constructor
   ·refine⟨j+1,e,by omega,?_,by rw[hpos];omega,by rw[hpos];omega⟩;rw[QR,←hl,QaS,hh,hpos];rfl
   ·show(k-i64.wrap ((j:Int)+1)).toNat<(k-(j:Int)).toNat;rw[e];omega
  ·rename_i hh hlt;have hlt:(j:Int)<k:=hlt;have hh:QgF (vM M) (Int.tmod (i64.wrap (p+1)) 2560)=false:=hh;rw[hpos] at hh;have e:i64.wrap ((j:Int)+1)=((j+1:Nat):Int):=by rw[w64 (by omega) (by omega)];omega
   apply Exists.intro (_,_,_);refine And.intro ?_ (And.intro ?_ (Le.k [] [0,1] ?hh))
   case hh=>repeat' constructor
   ·refine⟨j+1,e,by omega,?_,by rw[hpos];omega,by rw[hpos];omega⟩;rw[QR,←hl,QaS,hh,hpos];rfl
   ·show(k-i64.wrap ((j:Int)+1)).toNat<(k-(j:Int)).toNat;rw[e];omega
  ·rename_i hlt;have hlt:¬(j:Int)<k:=hlt;have ej:j=k.toNat:=by omega
   refine .mk [] [2,1] _ R R R R R (Qdw (l:=[p,h]) ?_ rfl) rfl;show _=Qq (QaS (vM M)) k.toNat [vP N,vH N];rw[←ej];exact hl
def QEI:PSpec:=⟨[gD],fun(d,_)=>(some (u8s d.2),I (QY (vM d.2) (vP d.1)),[])⟩
theorem QB4:G0 217 QEI.spec:=by
 have hP:S0 _:=Qa QhO (Qa QoW (Qb (T:=tree)));have hT:=tabs hP Qc;refine QEI.gd hT hP Tryz.func217 fun(d:Dv) hp=>?_
 obtain⟨N,M⟩:=d;have hu:u8s M:=hp _ rfl
 repeat' first|(apply Ea;conv=>whnf)|apply Eb|apply Ec<;>intro _|apply Ed<;>intro _|apply Ee<;>intro _|apply Ef hT hP
 ·exact⟨QaN M,Qd1 hu,(Qc4 N).1,(Qc4 N).2⟩
 ·exact .k [] [] _ R R
def vwM(m:List Int)(a k:Int):List Int:=if (0≤a∧a<32)∧(a<5∨a>7) then m.set a.toNat (k%256) else m
def Qtl:PSpec:=⟨[gD,gi,gi],fun(d,a,k,_)=>(none,Qdv,[.arr (.int .i64) [vP d.1,vH d.1],.arr (.int .u8) (vwM (vM d.2) a k)])⟩
theorem Qtm:G0 183 Qtl.spec:=by
 have hP:S0 _:=Qa QgW (Qa QhO (Qa QN (Qb (T:=tree))));have hT:=tabs hP Qc;refine Qtl.gd hT hP Tryz.func183 fun(d:Dv) (a k:Int) _=>?_
 obtain⟨N,M⟩:=d
 repeat' first|(apply Ea;conv=>whnf)|apply Eb|apply Ec<;>intro _|apply Ed<;>intro _|apply Ee<;>intro _|apply Ef hT hP
 all_goals first
  |exact of_decide_eq_true rfl
  |skip
 ·show 0≤a∧a<(vM M).length;rw[QaN];omega
 ·show a.toNat<(vM M).length;rw[QaN];omega
 ·refine .mk [] [3,2] _ R R R R R (Qdw (l:=[vP N,vH N]) (m:=(vM M).set a.toNat (IntKind.u8.wrap (k%2 ^ (8:Int).toNat))) rfl ?_) rfl;show _=vwM (vM M) a k;have e:IntKind.u8.wrap (k%2 ^ (8:Int).toNat)=k%256:=QB2 (by show 0≤k%256;omega) (by show k%256<256;omega);rw[vwM,if_pos ⟨⟨by omega,by omega⟩,by omega⟩,e]
 ·show 0≤a∧a<(vM M).length;rw[QaN];omega
 ·show a.toNat<(vM M).length;rw[QaN];omega
 ·refine .mk [] [3,2] _ R R R R R (Qdw (l:=[vP N,vH N]) (m:=(vM M).set a.toNat (IntKind.u8.wrap (k%2 ^ (8:Int).toNat))) rfl ?_) rfl;show _=vwM (vM M) a k;have e:IntKind.u8.wrap (k%2 ^ (8:Int).toNat)=k%256:=QB2 (by show 0≤k%256;omega) (by show k%256<256;omega);rw[vwM,if_pos ⟨⟨by omega,by omega⟩,by omega⟩,e]
 ·refine .mk [] [3,2] _ R R R R R (Qdw (l:=[vP N,vH N]) (m:=vM M) rfl ?_) rfl;show _=vwM (vM M) a k;rw[vwM,if_neg (fun e=>by omega)]
 ·refine .mk [] [3,2] _ R R R R R (Qdw (l:=[vP N,vH N]) (m:=vM M) rfl ?_) rfl;show _=vwM (vM M) a k;rw[vwM,if_neg (fun e=>by omega)]
 ·refine .mk [] [3,2] _ R R R R R (Qdw (l:=[vP N,vH N]) (m:=vM M) rfl ?_) rfl;show _=vwM (vM M) a k;rw[vwM,if_neg (fun e=>by omega)]
def vrF(N m:List Int)(a:Int):Int:=if a=5 then vP N/64 else if a=6 then vP N%64 else if a=7 then vH N else if 0≤a∧a<32 then bA m a.toNat else 0
def vrN(N:List Int)(a:Int):List Int:=[vP N,if a=7 then 0 else vH N]
def QAc:PSpec:=⟨[gD,gi],fun(d,a,_)=>(some (u8s d.2),.tup [.agg [.own 0,.own 1],I1 (vrF d.1 (vM d.2) a)],[.arr (.int .i64) (vrN d.1 a),.arr (.int .u8) (vM d.2)])⟩
theorem QxA:G0 176 QAc.spec:=by
 have hP:S0 _:=Qa QgW (Qa QhO (Qb (T:=tree)));have hT:=tabs hP Qc;refine QAc.gd hT hP Tryz.func176 fun(d:Dv) (a:Int) hp=>?_
 obtain⟨N,M⟩:=d;have hu:u8s M:=hp _ rfl;have hP0:=Qc4 N
 repeat' first|(apply Ea;conv=>whnf)|apply Eb|apply Ec<;>intro _|apply Ed<;>intro _|apply Ee<;>intro _|apply Ef hT hP
 all_goals first
  |exact of_decide_eq_true rfl
  |(show 0≤a∧a<(vM M).length
    rw[QaN];omega)
  |(show a.toNat<(vM M).length
    rw[QaN];omega)
  |skip
 ·rename_i h;have h:a=5:=h;refine .mk [] [3,2] _ R R R R R (Qdw (l:=[vP N,vH N]) (m:=vM M) ?_ rfl) (QhN ?_)
  ·show _=vrN N a;rw[vrN,if_neg (by omega)]
  ·show i64.wrap (Int.tdiv (vP N) 64)=vrF N (vM M) a;rw[vrF,if_pos h,Int.tdiv_eq_ediv_of_nonneg hP0.1,w64 (by omega) (by omega)]
 ·rename_i h0 h;have h:a=6:=h;refine .mk [] [3,2] _ R R R R R (Qdw (l:=[vP N,vH N]) (m:=vM M) ?_ rfl) (QhN ?_)
  ·show _=vrN N a;rw[vrN,if_neg (by omega)]
  ·show Int.tmod (vP N) 64=vrF N (vM M) a;rw[vrF,if_neg h0,if_pos h,Int.tmod_eq_emod_of_nonneg hP0.1]
 ·rename_i h0 h1 h;have h:a=7:=h;refine .mk [] [3,2] _ R R R R R (Qdw (l:=[vP N,0]) (m:=vM M) ?_ rfl) (QhN ?_)
  ·show _=vrN N a;rw[vrN,if_pos h]
  ·show vH N=vrF N (vM M) a;rw[vrF,if_neg h0,if_neg h1,if_pos h]
 ·rename_i h0 h1 h2 h3 h4;have hb:=Qdu (Qd1 hu) a.toNat;refine .mk [] [3,2] _ R R R R R (Qdw (l:=[vP N,vH N]) (m:=vM M) ?_ rfl) (QhN ?_)
  ·show _=vrN N a;rw[vrN,if_neg h2]
  ·show i64.wrap (bA (vM M) a.toNat)=vrF N (vM M) a;rw[vrF,if_neg h0,if_neg h1,if_neg h2,if_pos ⟨h3,h4⟩,w64 (by omega) (by omega)]
 ·rename_i h0 h1 h2 h3 h4;refine .mk [] [3,2] _ R R R R R (Qdw (l:=[vP N,vH N]) (m:=vM M) ?_ rfl) (QhN ?_)
  ·show _=vrN N a;rw[vrN,if_neg h2]
  ·show 0=vrF N (vM M) a;rw[vrF,if_neg h0,if_neg h1,if_neg h2,if_neg (fun e=>h4 e.2)]
 ·rename_i h0 h1 h2 h3;refine .mk [] [3,2] _ R R R R R (Qdw (l:=[vP N,vH N]) (m:=vM M) ?_ rfl) (QhN ?_)
  ·show _=vrN N a;rw[vrN,if_neg h2]
  ·show 0=vrF N (vM M) a;rw[vrF,if_neg h0,if_neg h1,if_neg h2,if_neg (fun e=>h3 e.1)]
def QdM(m:List Int)(p k:Int):Bool:=decide (QY m ((p+k)%2560)≠QY m p)
def QeG(m:List Int)(p:Int):Nat→Int
 |0=>100000
 |n+1=>if QdM m p (2560-n)=true then 2560-n-1 else QeG m p n
def Qb5(m:List Int)(p:Int):Int:=QeG m p 2560
theorem Qem(m:List Int)(p:Int){n:Nat}(h:QdM m p (2560-n)=false):QeG m p (n+1)=QeG m p n:=by
 rw[QeG,h];rfl
theorem QfB(m:List Int)(p:Int){n:Nat}(h:QdM m p (2560-n)=true):QeG m p (n+1)=2560-n-1:=by
 rw[QeG,h];rfl
def QAd:PSpec:=⟨[gD],fun(d,_)=>(some (u8s d.2),I (Qb5 (vM d.2) (vP d.1)),[])⟩
theorem QxB:G0 151 QAd.spec:=by
 have hP:S0 _:=Qa QhO (Qa QoW (Qb (T:=tree)));have hT:=tabs hP Qc;refine QAd.gd hT hP Tryz.func151 fun(d:Dv) hp=>?_
 obtain⟨N,M⟩:=d;have hu:u8s M:=hp _ rfl;have hP0:=Qc4 N
 repeat' first|(apply Ea;conv=>whnf)|apply Eb|apply Ec<;>intro _|apply Ed<;>intro _|apply Ee<;>intro _|apply Ef hT hP
 ·exact⟨QaN M,Qd1 hu,hP0.1,hP0.2⟩
 refine Qai hT hP (X:=Int×Int) (fun(i,p)=>St.mk (E3 ((I p)::E1 ((.cell (.own 0))::(I (QY (vM M) (vP N)))::E10 ((I i)::E10 (E2 []))))) [some (.arr (.int .u8) (vM M))])
  (fun(i,p)=>∃j:Nat,i=j∧j≤2560∧p=(vP N+j)%2560∧Qb5 (vM M) (vP N)=QeG (vM M) (vP N) (2560-j)) (fun(i,_)=>(2560-i).toNat) (0,vP N) (Le.k [] [1] ?_) ?_ fun(i,p) hi=>?_
 rotate_right
 repeat' first|(apply Ea;conv=>whnf)|apply Eb|apply Ec<;>intro _|apply Ed<;>intro _|apply Ee<;>intro _|apply Ef hT hP
 rotate_right 2
 ·repeat' constructor
 ·exact⟨0,rfl,Nat.zero_le _,by show vP N=(vP N+0)%2560;omega,rfl⟩
 all_goals
  obtain⟨j,rfl,hj,rfl,hr⟩:=hi;have hpos:Int.tmod (i64.wrap ((vP N+(j:Int))%2560+1)) 2560=(vP N+((j:Int)+1))%2560:=by rw[w64 (by omega) (by omega),Int.tmod_eq_emod_of_nonneg (by omega)];omega
  have hpos2:0≤Int.tmod (i64.wrap ((vP N+(j:Int))%2560+1)) 2560∧Int.tmod (i64.wrap ((vP N+(j:Int))%2560+1)) 2560<2560:=by rw[hpos];omega
 ·decide
 ·exact⟨QaN M,Qd1 hu,hpos2.1,hpos2.2⟩
 ·rename_i hlt hh;have hlt:(j:Int)<2560:=hlt;have hh:(QY (vM M) (Int.tmod (i64.wrap ((vP N+(j:Int))%2560+1)) 2560) != QY (vM M) (vP N))=true:=hh;rw[hpos] at hh;refine .k [] [] _ rfl (Qd ?_);show(j:Int)=Qb5 (vM M) (vP N);have e:2560-j=(2560-(j+1))+1:=by omega
  have e2:(2560:Int)-((2560-(j+1):Nat):Int)=(j:Int)+1:=by omega
  rw[hr,e,QfB _ _ (by rw[e2];unfold QdM;simpa using hh)];omega
 ·rename_i hlt hh;have hlt:(j:Int)<2560:=hlt;have hh:(QY (vM M) (Int.tmod (i64.wrap ((vP N+(j:Int))%2560+1)) 2560) != QY (vM M) (vP N))=false:=hh;rw[hpos] at hh;have e:i64.wrap ((j:Int)+1)=((j+1:Nat):Int):=by rw[w64 (by omega) (by omega)];omega
  apply Exists.intro (_,_);refine And.intro ?_ (And.intro ?_ (Le.k [] [0] ?hh))
  case hh=>repeat' constructor
  ·refine⟨j+1,e,by omega,?_,?_⟩
   ·rw[hpos];omega
   ·have e1:2560-j=(2560-(j+1))+1:=by omega
    have e2:(2560:Int)-((2560-(j+1):Nat):Int)=(j:Int)+1:=by omega
    rw[hr,e1,Qem _ _ (by rw[e2];unfold QdM;simpa using hh)]
  ·show((2560:Int)-i64.wrap ((j:Int)+1)).toNat<((2560:Int)-(j:Int)).toNat;rw[e];omega
 ·rename_i hlt;have hlt:¬(j:Int)<2560:=hlt;have ej:j=2560:=by omega
  refine .k [] [] _ rfl (Qd ?_);show 100000=Qb5 (vM M) (vP N);rw[hr,ej];rfl
set_option linter.constructorNameAsVariable false
def i6Q(x:Int):Prop:=-9223372036854775808≤x∧x≤9223372036854775807
def cP(c:Cv):Prop:=i6Q c.2.2.1∧i6Q c.2.2.2.1∧List.length c.2.2.2.2≤140737488351232
def dP(d:Dv):Prop:=List.length d.2≤140737488355328∧u8s d.2
def Qba(c:Cv):Int:=max 1 (min (max c.2.2.2.1 1) 4097-1)
theorem QcP(c:Cv):1≤Qba c∧Qba c≤4096:=by unfold Qba;omega
def Qao(c:Cv):Int:=max 1 (((List.length c.2.2.2.2:Nat)+Qba c-1)/Qba c)
theorem Qa7{c:Cv}(h:List.length c.2.2.2.2≤140737488351232):1≤Qao c∧Qao c≤140737488355328∧Qao c*Qba c≤140737488355328:=by
 obtain⟨h1,h2⟩:=QcP c;have h3:((List.length c.2.2.2.2:Nat)+Qba c-1)/Qba c*Qba c≤(List.length c.2.2.2.2:Nat)+Qba c-1:=Int.ediv_mul_le _ (by omega);have h4:((List.length c.2.2.2.2:Nat)+Qba c-1)/Qba c≤(List.length c.2.2.2.2:Nat)+Qba c-1:=Int.ediv_le_self _ (by omega);unfold Qao;rcases Int.le_total 1 (((List.length c.2.2.2.2:Nat)+Qba c-1)/Qba c) with h|h
 ·rw[Int.max_eq_right h];omega
 ·rw[Int.max_eq_left h];omega
def QbD(c:Cv):Int:=if c.2.1=2 then Qao c*Qba c else max 0 (min c.2.2.2.1 65536)
theorem QlR{c:Cv}(h:List.length c.2.2.2.2≤140737488351232):0≤QbD c∧QbD c≤140737488355328:=by
 obtain⟨h1,h2,h3⟩:=Qa7 h;obtain⟨h4,h5⟩:=QcP c;have h6:0≤Qao c*Qba c:=Int.mul_nonneg (by omega) (by omega);unfold QbD;split
 ·omega
 ·omega
def QaT(c:Cv)(M:List Int):List Int:=over (List.replicate (QbD c).toNat 0) M 0
def memN(c:Cv)(N:List Int):List Int:=if c.2.1=2 then [N.getD 0 0%Qao c] else []
theorem Qkb(c:Cv)(M:List Int):(QaT c M).length=(QbD c).toNat:=by
 unfold QaT;rw[Qcl,List.length_replicate]
def Qto:PSpec:=⟨[gC],fun(c,_)=>(none,I (Qba c),[])⟩
theorem QhR:G0 197 Qto.spec:=by
 have hP:S0 _:=(Qb (T:=tree))
 have hT:=tabs hP Qc;refine Qto.gd hT hP Tryz.func197 fun(c:Cv) _=>?_
 obtain⟨cn,ck,cb,cs,cd⟩:=c
 repeat' first|(apply Ea;conv=>whnf)|apply Eb|apply Ec<;>intro _|apply Ed<;>intro _|apply Ee<;>intro _|apply Ef hT hP
 refine .k [] [] _ rfl (Qd ?_);show imax 1 (i64.wrap (imin (imax cs 1) 4097-1))=max 1 (min (max cs 1) 4097-1);rw[QT,QU,QT,w64 (by omega) (by omega)]
def Qtp:PSpec:=⟨[gC],fun(c,_)=>(some (List.length c.2.2.2.2≤140737488351232),I (Qao c),[])⟩
theorem QhS:G0 196 Qtp.spec:=by
 have hP:S0 _:=Qa QhR (Qb (T:=tree));have hT:=tabs hP Qc;refine Qtp.gd hT hP Tryz.func196 fun(c:Cv) hp=>?_
 have hl:List.length c.2.2.2.2≤140737488351232:=hp _ rfl;obtain⟨h1,h2⟩:=QcP c;obtain⟨cn,ck,cb,cs,cd⟩:=c;have hl:cd.length≤140737488351232:=hl;clear hp
 repeat' first|(apply Ea;conv=>whnf)|apply Eb|apply Ec<;>intro _|apply Ed<;>intro _|apply Ee<;>intro _|apply Ef hT hP
 all_goals first
  |(show Qba (cn,ck,cb,cs,cd)≠0
    omega)
  |skip
 refine .k [] [] _ rfl (Qd ?_);show imax 1 (i64.wrap (Int.tdiv (i64.wrap (i64.wrap ((cd.length:Int)+Qba (cn,ck,cb,cs,cd))-1)) (Qba (cn,ck,cb,cs,cd))))=Qao (cn,ck,cb,cs,cd);have h4:((cd.length:Int)+Qba (cn,ck,cb,cs,cd)-1)/Qba (cn,ck,cb,cs,cd)≤(cd.length:Int)+Qba (cn,ck,cb,cs,cd)-1:=Int.ediv_le_self _ (by omega);have h5:0≤((cd.length:Int)+Qba (cn,ck,cb,cs,cd)-1)/Qba (cn,ck,cb,cs,cd):=Int.ediv_nonneg (by omega) (by omega);rw[w64 (x:=(cd.length:Int)+Qba (cn,ck,cb,cs,cd)) (by omega) (by omega),w64 (x:=(cd.length:Int)+Qba (cn,ck,cb,cs,cd)-1) (by omega) (by omega),Int.tdiv_eq_ediv_of_nonneg (by omega),w64 (by omega) (by omega),QT];rfl
def Qtq:PSpec:=⟨[gC],fun(c,_)=>(some (List.length c.2.2.2.2≤140737488351232),I (QbD c),[])⟩
theorem QlS:G0 109 Qtq.spec:=by
 have hP:S0 _:=Qa QhR (Qa QhS (Qb (T:=tree)));have hT:=tabs hP Qc;refine Qtq.gd hT hP Tryz.func109 fun(c:Cv) hp=>?_
 have hl:List.length c.2.2.2.2≤140737488351232:=hp _ rfl;obtain⟨h1,h2⟩:=QcP c;obtain⟨h3,h4,h5⟩:=Qa7 hl;have h6:0≤Qao c*Qba c:=Int.mul_nonneg (by omega) (by omega);obtain⟨cn,ck,cb,cs,cd⟩:=c;clear hp
 repeat' first|(apply Ea;conv=>whnf)|apply Eb|apply Ec<;>intro _|apply Ed<;>intro _|apply Ee<;>intro _|apply Ef hT hP
 all_goals first
  |exact hl
  |skip
 ·rename_i h;have h:ck=2:=h;refine .k [] [] _ rfl (Qd ?_);show i64.wrap (Qao (cn,ck,cb,cs,cd)*Qba (cn,ck,cb,cs,cd))=QbD (cn,ck,cb,cs,cd);rw[w64 (by omega) (by omega),QbD,if_pos h]
 ·rename_i h;have h:¬ck=2:=h;refine .k [] [] _ rfl (Qd ?_);show imax 0 (imin cs 65536)=QbD (cn,ck,cb,cs,cd);rw[QT,QU,QbD,if_neg h]
theorem QhT(n a b:Int)(h:a≤b):Qae n a b=max a (min n b):=by
 unfold Qae;(repeat' split)<;>omega
theorem Qtr{l k w:Int}(hw:1≤w)(hk:0≤k)(hl:0≤l)(h1:l-k*w≤0)(h2:k=0∨0<l-(k-1)*w):max 1 (min k 1152921504606846976)=max 1 (min ((l+w-1)/w) 1152921504606846976):=by
 rcases h2 with rfl|h2
 ·have:l=0:=by omega
  subst this;have:(0+w-1)/w=0:=Int.ediv_eq_zero_of_lt (by omega) (by omega);rw[this]
 ·have e:(l+w-1)/w=k:=by
   rw[Int.sub_mul] at h2;have:l+w-1=(l+w-1-k*w)+k*w:=by omega
   rw[this,Int.add_mul_ediv_right _ _ (by omega),Int.ediv_eq_zero_of_lt (by omega) (by omega)];omega
  rw[e]
def Qts:PSpec:=⟨[gC],fun(c,_)=>(some (cP c),.tup [I1 (Qao c),I1 (Qba c)],[])⟩
theorem QfC:G0 107 Qts.spec:=by
 have hP:S0 _:=Qa QgX (Qb (T:=tree));have hT:=tabs hP Qc;refine Qts.gd hT hP Tryz.func107 fun(c:Cv) hp=>?_
 obtain⟨hb,hs,hl⟩:cP c:=hp _ rfl;obtain⟨h1,h2⟩:=QcP c;obtain⟨h3,h4,h5⟩:=Qa7 hl;obtain⟨cn,ck,cb,cs,cd⟩:=c;have hl:cd.length≤140737488351232:=hl;obtain⟨hs1,hs2⟩:-9223372036854775808≤cs∧cs≤9223372036854775807:=hs;clear hp
 have ew:Qae (i64.wrap (imax cs 1-1)) 1 4096=Qba (cn,ck,cb,cs,cd):=by
  rw[QT,QhT _ _ _ (by omega)];unfold Qba;show _=max 1 (min (max cs 1) 4097-1);rw[w64 (by omega) (by omega)];omega
 generalize hw:Qba (cn,ck,cb,cs,cd)=w at *
 repeat' first|(apply Ea;conv=>whnf)|apply Eb|apply Ec<;>intro _|apply Ed<;>intro _|apply Ee<;>intro _|apply Ef hT hP
 refine Qai hT hP (X:=Int×Int) (fun(k,l)=>St.mk (E3 (E1 ((I (Qae (i64.wrap (imax cs 1-1)) 1 4096))::(I k)::(I l)::E10 (E5 (E3 []))))) [])
  (fun(k,l)=>0≤k∧k≤cd.length∧l=cd.length-k*w∧(k=0∨0<(cd.length:Int)-(k-1)*w)) (fun(k,l)=>l.toNat) (0,(cd.length:Int)) (Le.mk [] [] R R R ?_) ?_ fun(k,l) hi=>?_
 rotate_right
 repeat' first|(apply Ea;conv=>whnf)|apply Eb|apply Ec<;>intro _|apply Ed<;>intro _|apply Ee<;>intro _|apply Ef hT hP
 ·rename_i h0;obtain⟨hk0,hk,hll,hor⟩:=hi;have h0:l>0:=h0;have hm:k*1≤k*w:=Int.mul_le_mul_of_nonneg_left h1 hk0;have e1:i64.wrap (k+1)=k+1:=w64 (by omega) (by omega);have e2:i64.wrap (l-Qae (i64.wrap (imax cs 1-1)) 1 4096)=l-w:=by rw[ew];exact w64 (by omega) (by omega)
  apply Exists.intro (_,_);refine And.intro ?_ (And.intro ?_ (Le.k [] [] ?hh))
  case hh=>repeat' constructor
  ·show 0≤i64.wrap (k+1)∧i64.wrap (k+1)≤cd.length∧i64.wrap (l-Qae (i64.wrap (imax cs 1-1)) 1 4096)=cd.length-i64.wrap (k+1)*w∧(i64.wrap (k+1)=0∨0<(cd.length:Int)-(i64.wrap (k+1)-1)*w)
   rw[e1,e2,Int.add_mul,Int.one_mul];refine⟨by omega,by omega,by omega,.inr ?_⟩;have:k+1-1=k:=by omega
   rw[this];omega
  ·show(i64.wrap (l-Qae (i64.wrap (imax cs 1-1)) 1 4096)).toNat<l.toNat;rw[e2];omega
 ·rename_i h0;obtain⟨hk0,hk,hll,hor⟩:=hi;have h0:¬l>0:=h0;refine .k [] [] _ rfl ?_;show AV.tup [I1 (Qae k 1 1152921504606846976),I1 (Qae (i64.wrap (imax cs 1-1)) 1 4096)]=AV.tup [I1 (Qao (cn,ck,cb,cs,cd)),I1 (Qba (cn,ck,cb,cs,cd))];have e:=Qtr (l:=cd.length) (k:=k) (w:=w) h1 hk0 (by omega) (by omega) hor;have h7:((cd.length:Int)+w-1)/w≤(cd.length:Int)+w-1:=Int.ediv_le_self _ (by omega)
  have e2:Qae k 1 1152921504606846976=Qao (cn,ck,cb,cs,cd):=by
   rw[QhT _ _ _ (by omega),e,Qao,hw];show _=max 1 (((cd.length:Int)+w-1)/w);rw[Int.min_eq_left (by omega)]
  rw[ew,e2,hw]
 ·repeat' constructor
 ·exact⟨Int.le_refl _,by omega,by show(cd.length:Int)=cd.length-0*w;omega,.inl rfl⟩
theorem QB5(n:Int)(M:List Int)(h:i64.wrap n=n):over (List.replicate (i64.wrap n).toNat 0) M 0=over (List.replicate n.toNat 0) M 0:=by rw[h]
def QEJ:PSpec:=⟨[gC,gD],fun(c,d,_)=>(some (cP c),Qdv,[.arr (.int .i64) (memN c d.1),.arr (.int .u8) (QaT c d.2)])⟩
theorem Qnl:G0 155 QEJ.spec:=by
 have hP:S0 _:=Qa QlS (Qa QhS (Qb (T:=tree)));have hT:=tabs hP Qc;refine QEJ.gd hT hP Tryz.func155 fun(c:Cv) (d:Dv) hp=>?_
 obtain⟨hb,hs,hl⟩:cP c:=hp _ rfl;obtain⟨h3,h4,h5⟩:=Qa7 hl;obtain⟨h6,h7⟩:=QlR hl;obtain⟨N,M⟩:=d;clear hp;obtain⟨cn,ck,cb,cs,cd⟩:=c
 repeat' first|(apply Ea;conv=>whnf)|apply Eb|apply Ec<;>intro _|apply Ed<;>intro _|apply Ee<;>intro _|apply Ef hT hP
 all_goals(try dsimp only[Qf] at *)
 all_goals first
  |exact hl
  |exact of_decide_eq_true rfl
  |(show QbD (cn,ck,cb,cs,cd)=QbD (cn,ck,cb,cs,cd)∧0≤QbD (cn,ck,cb,cs,cd)∧QbD (cn,ck,cb,cs,cd)*1≤281474976710656∧QbD (cn,ck,cb,cs,cd)≤281474976710656
    omega)
  |(show(0:Int)≤0∧(0:Int)<(N.length:Int)
    omega)
  |(show Qao (cn,ck,cb,cs,cd)≠0
    omega)
  |skip
 ·rename_i g1 g2;refine .mk [] [5,3] _ R R R R R (Qt (l':=memN (cn,ck,cb,cs,cd) N) (m':=QaT (cn,ck,cb,cs,cd) M) ?_ rfl) rfl;show[Int.tmod (i64.wrap (Int.tmod (N.getD 0 0) (Qao (cn,ck,cb,cs,cd))+Qao (cn,ck,cb,cs,cd))) (Qao (cn,ck,cb,cs,cd))]=_;rw[QoJ _ (by omega) (by omega),memN,if_pos g1]
 ·rename_i g1 g2;refine .mk [] [5,3] _ R R R R R (Qt (l:=[0]) (l':=memN (cn,ck,cb,cs,cd) N) (m':=QaT (cn,ck,cb,cs,cd) M) ?_ rfl) rfl;obtain rfl:N=[]:=List.eq_nil_of_length_eq_zero (by omega);rw[memN,if_pos g1];rfl
 ·rename_i g1;refine .le (Le.nilH 2 (.int .i64) _ _ R R R) (.mk [] [5,3] _ R R R R R (Qt (l:=[]) (l':=memN (cn,ck,cb,cs,cd) N) (m':=QaT (cn,ck,cb,cs,cd) M) ?_ rfl) rfl);rw[memN,if_neg g1]
def QoZ:PSpec:=⟨[gC,gD],fun(c,d,_)=>(some (cP c∧(c.2.1=0∨c.2.1=1∨c.2.1=2)),Qdv,[.arr (.int .i64) (memN c d.1),.arr (.int .u8) (QaT c d.2)])⟩
theorem Qgj:G0 58 QoZ.spec:=by
 have hP:S0 _:=Qa QgX (Qa QfC (Qa QcO (Qb (T:=tree))));have hT:=tabs hP Qc;refine QoZ.gd hT hP Tryz.func58 fun(c:Cv) (d:Dv) hp=>?_
 obtain⟨hc,hk⟩:cP c∧(c.2.1=0∨c.2.1=1∨c.2.1=2):=hp _ rfl;obtain⟨hb,hs,hl⟩:=id hc;obtain⟨h3,h4,h5⟩:=Qa7 hl;obtain⟨h1,h2⟩:=QcP c;obtain⟨N,M⟩:=d;clear hp;obtain⟨cn,ck,cb,cs,cd⟩:=c;have hk:ck=0∨ck=1∨ck=2:=hk;have el:Qae cs 0 65536=max 0 (min cs 65536):=QhT _ _ _ (by omega);rcases hk with rfl|rfl|rfl
 ·repeat' first|(apply Ea;conv=>whnf)|apply Eb|apply Ec<;>intro _|apply Ed<;>intro _|apply Ee<;>intro _|apply Ef hT hP
  all_goals(try dsimp only[Qf] at *)
  ·omega
  ·rename_i g1;refine .le (Le.nilH 2 (.int .i64) _ _ R R R) (.mk [] [5,4] _ R R R R R (Qt (l:=[]) (l':=memN (cn,0,cb,cs,cd) N) (m':=QaT (cn,0,cb,cs,cd) M) rfl ?_) rfl);show over (List.replicate (Qae cs 0 65536).toNat 0) M 0=over (List.replicate (max 0 (min cs 65536)).toNat 0) M 0;rw[el]
  ·rename_i g1;refine .le (Le.nilH 2 (.int .i64) _ _ R R R) (.le (Le.nilH 2 (.int .u8) _ _ R R R) (.mk [] [4,5] _ R R R R R (Qt (l:=[]) (l':=memN (cn,0,cb,cs,cd) N) (m:=[]) (m':=QaT (cn,0,cb,cs,cd) M) rfl ?_) rfl));show _=over (List.replicate (max 0 (min cs 65536)).toNat 0) M 0;rw[el] at g1;have:(max 0 (min cs 65536)).toNat=0:=by omega
   rw[this];rfl
 ·repeat' first|(apply Ea;conv=>whnf)|apply Eb|apply Ec<;>intro _|apply Ed<;>intro _|apply Ee<;>intro _|apply Ef hT hP
  all_goals(try dsimp only[Qf] at *)
  ·omega
  ·rename_i g1;refine .le (Le.nilH 2 (.int .i64) _ _ R R R) (.mk [] [5,4] _ R R R R R (Qt (l:=[]) (l':=memN (cn,1,cb,cs,cd) N) (m':=QaT (cn,1,cb,cs,cd) M) rfl ?_) rfl);show over (List.replicate (Qae cs 0 65536).toNat 0) M 0=over (List.replicate (max 0 (min cs 65536)).toNat 0) M 0;rw[el]
  ·rename_i g1;refine .le (Le.nilH 2 (.int .i64) _ _ R R R) (.le (Le.nilH 2 (.int .u8) _ _ R R R) (.mk [] [4,5] _ R R R R R (Qt (l:=[]) (l':=memN (cn,1,cb,cs,cd) N) (m:=[]) (m':=QaT (cn,1,cb,cs,cd) M) rfl ?_) rfl));show _=over (List.replicate (max 0 (min cs 65536)).toNat 0) M 0;rw[el] at g1;have:(max 0 (min cs 65536)).toNat=0:=by omega
   rw[this];rfl
 ·have h3:1≤Qao (cn,2,cb,cs,cd):=h3;have h4:Qao (cn,2,cb,cs,cd)≤140737488355328:=h4;have h5:Qao (cn,2,cb,cs,cd)*Qba (cn,2,cb,cs,cd)≤140737488355328:=h5;have h1:1≤Qba (cn,2,cb,cs,cd):=h1;have h8:1*1≤Qao (cn,2,cb,cs,cd)*Qba (cn,2,cb,cs,cd):=Int.mul_le_mul h3 h1 (by omega) (by omega);have ew:i64.wrap (Qao (cn,2,cb,cs,cd)*Qba (cn,2,cb,cs,cd))=Qao (cn,2,cb,cs,cd)*Qba (cn,2,cb,cs,cd):=w64 (by omega) (by omega)
  repeat' first|(apply Ea;conv=>whnf)|apply Eb|apply Ec<;>intro _|apply Ed<;>intro _|apply Ee<;>intro _|apply Ef hT hP
  all_goals(try dsimp only[Qf] at *)
  ·exact hc
  ·refine⟨by show 1≤1000;omega,fun m hm=>?_⟩;simp only[List.mem_cons,List.not_mem_nil,or_false] at hm;subst hm;show 0<Qao (cn,2,cb,cs,cd)∧Qao (cn,2,cb,cs,cd)≤4611686018427387904;omega
  ·rw[ew];omega
  ·rename_i g1;refine .mk [] [5,6] _ R R R R R (Qt (l':=memN (cn,2,cb,cs,cd) N) (m':=QaT (cn,2,cb,cs,cd) M) rfl ?_) rfl;exact QB5 _ M ew
  ·rename_i g1;exfalso;have g1:¬i64.wrap (Qao (cn,2,cb,cs,cd)*Qba (cn,2,cb,cs,cd))>0:=g1;rw[ew] at g1;omega
def Qo0:PSpec:=⟨[gC,gD],fun(c,d,_)=>(some (c.2.1<0∨8<c.2.1),Qdv,[.arr (.int .i64) [],.arr (.int .u8) []])⟩
theorem QqX:G0 58 Qo0.spec:=by
 have hP:S0 _:=Qa QgX (Qa QfC (Qa QcO (Qb (T:=tree))));have hT:=tabs hP Qc;refine Qo0.gd hT hP Tryz.func58 fun(c:Cv) (d:Dv) hp=>?_
 have hk:c.2.1<0∨8<c.2.1:=hp _ rfl;obtain⟨N,M⟩:=d;clear hp;obtain⟨cn,ck,cb,cs,cd⟩:=c
 repeat' first|(apply Ea;conv=>whnf)|apply Eb|apply Ec<;>intro _|apply Ed<;>intro _|apply Ee<;>intro _|apply Ef hT hP
 all_goals(try dsimp only[Qf] at *)
 all_goals first
  |omega
  |exact .le (Le.nilH 2 (.int .i64) _ _ R R R) (.le (Le.nilH 2 (.int .u8) _ _ R R R) (.k [] [4,5] _ R R))
  |skip
 all_goals trace_state
def Qtt:PSpec:=⟨[gC,gD],fun(c,d,_)=>(some (c.2.1=8∧List.length d.2≤140737488355328),.agg [.own 0,.own 1],[.arr (.int .i64) (dN d.1 (qF d.2)),.arr (.int .u8) (dM d.2)])⟩
theorem Qcr:G0 58 Qtt.spec:=by
 refine QQ.sel Qe0 fun(c,d,_) hp=>?_
 obtain⟨hk,hl⟩:c.2.1=8∧List.length d.2≤140737488355328:=hp _ rfl;by_cases h:qF d.2=0
 ·refine⟨_,QhJ,fun q hq=>?_,?_⟩
  ·cases hq;exact⟨hk,hl,h⟩
  ·have e:dM d.2=[]:=by unfold dM;rw[h];rfl
   show Conv (AV.agg [.own 0,.imm (.slice none 0 0)],[.arr (.int .i64) (dN d.1 (qF d.2))]) (AV.agg [.own 0,.own 1],[.arr (.int .i64) (dN d.1 (qF d.2)),.arr (.int .u8) (dM d.2)]);rw[e];exact .nil (.int .u8) rfl .refl
 ·exact⟨_,Qe0,fun q hq=>by cases hq;exact⟨hk,hl,Nat.pos_of_ne_zero h⟩,.refl⟩
def QlT:PSpec:=⟨[gC,gD,gi],fun(c,d,a,_)=>(some (c.2.1=8∧List.length d.2≤140737488355328),.tup [.agg [.own 0,.own 1],I1 (drF d.1 (qF d.2) a)],[.arr (.int .i64) (drN d.1 (qF d.2) a),.arr (.int .u8) (dM d.2)])⟩
theorem Qnm:G0 76 QlT.spec:=by
 have hP:S0 _:=Qa Qcr (Qa Qgg (Qa Qnc (Qb (T:=tree))));have hT:=tabs hP Qc;refine QlT.gd hT hP Tryz.func76 fun(c:Cv) (d:Dv) (a:Int) hp=>?_
 obtain⟨cn,ck,cb,cs,cd⟩:=c;obtain⟨N,M⟩:=d;obtain⟨rfl,hl⟩:ck=8∧M.length≤140737488355328:=hp _ rfl;obtain⟨r0,r1,r2,r3,r4,r5,r6,r7,r8,r9⟩:=eR N (qF M);have b1:=Qj5 (decide (e2 N>0));have b2:=Qj5 (decide (e0 N (qF M)=0))
 have hv:i64.wrap (i64.wrap (i64.wrap (QdL (decide (e2 N>0))+i64.wrap (2*e7 N))+i64.wrap (4*e8 N))+i64.wrap (8*QdL (decide (e0 N (qF M)=0))))=QdL (decide (e2 N>0))+2*e7 N+4*e8 N+8*QdL (decide (e0 N (qF M)=0)):=by
  rw[w64 (x:=2*e7 N) (by omega) (by omega),w64 (x:=4*e8 N) (by omega) (by omega),w64 (x:=8*QdL (decide (e0 N (qF M)=0))) (by omega) (by omega),w64 (x:=QdL (decide (e2 N>0))+2*e7 N) (by omega) (by omega),
   w64 (x:=QdL (decide (e2 N>0))+2*e7 N+4*e8 N) (by omega) (by omega),w64 (by omega) (by omega)]
 repeat' first|(apply Ea;conv=>whnf)|apply Eb|apply Ec<;>intro _|apply Ed<;>intro _|apply Ee<;>intro _|apply Ef hT hP
 all_goals first
  |exact⟨rfl,hl⟩
  |exact of_decide_eq_true rfl
  |skip
 ·rename_i g0 g1 g2;have g0:a=0:=g0;have g1:a=1:=g1;omega
 ·rename_i g0 g1 g2;have g0:a=0:=g0;have g1:a=1:=g1;omega
 ·rename_i g0 g1;have g0:a=0:=g0;have g1:¬a=1:=g1;refine .mk [] [4,5] _ R R R R R (Qt (l:=[e0 N (qF M),e1 N,e2 N,e3 N,e4 N,e5 N,e6 N,e7 N,0,e9 N]) (l':=drN N (qF M) a) ?_ rfl) (Qd0 (congrArg (fun z=>QbU [z,e6 N,e1 N,e9 N] a) hv));rw[drN,if_neg (fun z=>g1 z.1),if_pos g0]
 ·rename_i g0 g1 g2;have g0:¬a=0:=g0;have g1:a=1:=g1;have g2:(e2 N != 4)=true:=g2;have g2:¬e2 N=4:=by simpa using g2
  refine .mk [] [4,5] _ R R R R R (Qt (l:=[e0 N (qF M),e1 N,e2 N,e3 N,e4 N,e5 N,e6 N,0,e8 N,e9 N]) (l':=drN N (qF M) a) ?_ rfl) (Qd0 (congrArg (fun z=>QbU [z,e6 N,e1 N,e9 N] a) hv));rw[drN,if_pos ⟨g1,g2⟩,if_neg g0]
 ·rename_i g0 g1 g2;have g0:¬a=0:=g0;have g2:(e2 N != 4)=false:=g2;have g2:e2 N=4:=by simpa using g2
  refine .mk [] [4,5] _ R R R R R (Qt (l:=dN N (qF M)) (l':=drN N (qF M) a) ?_ rfl) (Qd0 (congrArg (fun z=>QbU [z,e6 N,e1 N,e9 N] a) hv));rw[Qxq,drN,if_neg (fun z=>z.2 g2),if_neg g0]
 ·rename_i g0 g1;have g0:¬a=0:=g0;have g1:¬a=1:=g1;refine .mk [] [4,5] _ R R R R R (Qt (l:=dN N (qF M)) (l':=drN N (qF M) a) ?_ rfl) (Qd0 (congrArg (fun z=>QbU [z,e6 N,e1 N,e9 N] a) hv));rw[Qxq,drN,if_neg (fun z=>g1 z.1),if_neg g0]
def QlU:PSpec:=⟨[gC,gD,gi,gi],fun(c,d,a,k,_)=>(some (c.2.1=8∧List.length d.2≤140737488355328),.agg [.own 0,.own 1],[.arr (.int .i64) (dwN d.1 (qF d.2) a k),.arr (.int .u8) (dM d.2)])⟩
theorem Qnn:G0 77 QlU.spec:=by
 have hP:S0 _:=Qa Qcr (Qa Qco (Qa QqV (Qb (T:=tree))));have hT:=tabs hP Qc;refine QlU.gd hT hP Tryz.func77 fun(c:Cv) (d:Dv) (a k:Int) hp=>?_
 obtain⟨cn,ck,cb,cs,cd⟩:=c;obtain⟨N,M⟩:=d;obtain⟨rfl,hl⟩:ck=8∧M.length≤140737488355328:=hp _ rfl;obtain⟨r0,r1,r2,r3,r4,r5,r6,r7,r8,r9⟩:=eR N (qF M)
 repeat' first|(apply Ea;conv=>whnf)|apply Eb|apply Ec<;>intro _|apply Ed<;>intro _|apply Ee<;>intro _|apply Ef hT hP
 all_goals first
  |exact⟨rfl,hl⟩
  |exact of_decide_eq_true rfl
  |(refine⟨rfl,r2.1,?_,?_⟩
    ·exact(by omega:0≤k%256)
    ·exact(by omega:k%256<256))
  |exact .k [] [3,4] _ R R
  |skip
def Qo1:PSpec:=⟨[gC,gD,gi],fun(c,d,k,_)=>(some (c.2.1=8∧List.length d.2≤140737488355328),.agg [.own 0,.own 1],[.arr (.int .i64) (dcN d.1 (qF d.2) k),.arr (.int .u8) (dM d.2)])⟩
theorem QqY:G0 73 Qo1.spec:=by
 have hP:S0 _:=Qa Qcr (Qa Qco (Qb (T:=tree)));have hT:=tabs hP Qc;refine Qo1.gd hT hP Tryz.func73 fun(c:Cv) (d:Dv) (k:Int) hp=>?_
 obtain⟨cn,ck,cb,cs,cd⟩:=c;obtain⟨N,M⟩:=d;obtain⟨rfl,hl⟩:ck=8∧M.length≤140737488355328:=hp _ rfl
 have hqi:i64.wrap (Int.tdiv ((dM M).length:Int) 256)=((qF M:Nat):Int):=by
  have:=Qnd M;rw[QhI,Int.tdiv_eq_ediv_of_nonneg (by omega),w64 (by omega) (by omega)];omega
 repeat' first|(apply Ea;conv=>whnf)|apply Eb|apply Ec<;>intro _|apply Ed<;>intro _|apply Ee<;>intro _|apply Ef hT hP
 all_goals first
  |exact⟨rfl,hl⟩
  |exact of_decide_eq_true rfl
  |skip
 ·rename_i h hk1 hk2;have h:e2 N=0:=h;have hk2:k≤i64.wrap (Int.tdiv ((dM M).length:Int) 256):=hk2;rw[hqi] at hk2;refine .mk [] [3,4] _ R R R R R (Qt (l:=[k%256,e1 N,e2 N,e3 N,e4 N,e5 N,e6 N,e7 N,e8 N,e9 N]) (l':=dcN N (qF M) k) ?_ rfl) rfl;rw[dcN,if_pos h,if_pos ⟨hk1,hk2⟩]
 ·rename_i h hk1 hk2;have h:e2 N=0:=h;have hk2:¬k≤i64.wrap (Int.tdiv ((dM M).length:Int) 256):=hk2;rw[hqi] at hk2;refine .mk [] [3,4] _ R R R R R (Qt (l:=[0,e1 N,e2 N,e3 N,e4 N,e5 N,e6 N,e7 N,e8 N,e9 N]) (l':=dcN N (qF M) k) ?_ rfl) rfl;rw[dcN,if_pos h,if_neg (fun z=>hk2 z.2)]
 ·rename_i h hk1;have h:e2 N=0:=h;refine .mk [] [3,4] _ R R R R R (Qt (l:=[0,e1 N,e2 N,e3 N,e4 N,e5 N,e6 N,e7 N,e8 N,e9 N]) (l':=dcN N (qF M) k) ?_ rfl) rfl;rw[dcN,if_pos h,if_neg (fun z=>hk1 z.1)]
 ·rename_i h;have h:¬e2 N=0:=h;refine .mk [] [3,4] _ R R R R R (Qt (l:=dN N (qF M)) (l':=dcN N (qF M) k) ?_ rfl) rfl;rw[dcN,if_neg h]
def QlV:PSpec:=⟨[gC,gD],fun(c,d,_)=>(some (c.2.1=8∧List.length d.2≤140737488355328∧u8s d.2),.agg [.own 0,.own 1],[.arr (.int .i64) (Qat (dN d.1 (qF d.2),dM d.2)).1,.arr (.int .u8) (Qat (dN d.1 (qF d.2),dM d.2)).2])⟩
theorem Qno:G0 79 QlV.spec:=by
 have hP:S0 _:=Qa Qcr (Qa Qxp (Qb (T:=tree)));have hT:=tabs hP Qc;refine QlV.gd hT hP Tryz.func79 fun(c:Cv) (d:Dv) hp=>?_
 obtain⟨cn,ck,cb,cs,cd⟩:=c;obtain⟨N,M⟩:=d;obtain⟨rfl,hl,hu⟩:ck=8∧M.length≤140737488355328∧u8s M:=hp _ rfl;have hn:=QED N hu;clear hp
 repeat' first|(apply Ea;conv=>whnf)|apply Eb|apply Ec<;>intro _|apply Ed<;>intro _|apply Ee<;>intro _|apply Ef hT hP
 all_goals first
  |exact⟨rfl,hl⟩
  |exact of_decide_eq_true rfl
  |skip
 ·rename_i h;exact⟨⟨_,hn⟩,h⟩
 ·exact .k [] [3,4] _ R R
 ·rename_i h;exact .mk [] [3,4] _ R R R R R (Qt (congrArg Prod.fst (QlP (l:=dN N (qF M)) (m:=dM M) rfl h)).symm (congrArg Prod.snd (QlP (l:=dN N (qF M)) (m:=dM M) rfl h)).symm) rfl
end Go.Proofs.YtofgbclopbmlcaaGreat

