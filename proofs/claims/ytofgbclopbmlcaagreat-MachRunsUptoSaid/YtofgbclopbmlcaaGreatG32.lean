/- Part 32 of the proof. Conditions: none. -/
import Derived.Test.YtofgbclopbmlcaaGreatG31
import Derived.Test.YtofgbclopbmlcaaGreatG21
import Derived.Test.YtofgbclopbmlcaaGreatG23
namespace Go.Proofs.YtofgbclopbmlcaaGreat
open Go.IntKind (i64)
open Go.Fw
set_option linter.unusedVariables false
set_option linter.unusedSimpArgs false
set_option maxRecDepth 100000
theorem Qeo:([2560,2]:List Int).length≤1000∧∀m∈([2560,2]:List Int),0<m∧m≤4611686018427387904:=by decide
def Qpq:PSpec:=⟨[gC,gD],fun(c,d,_)=>(some (c.2.1=6),Qdv,[.arr (.int .i64) (vN d.1),.arr (.int .u8) (vM d.2)])⟩
theorem Qcg:G0 58 Qpq.spec:=by
 have hP:S0 _:=Qa QcO (Qb (T:=tree));have hT:=tabs hP Qc;refine Qpq.gd hT hP Tryz.func58 fun(c:Cv) (d:Dv) hp=>?_
 obtain⟨cn,ck,cb,cs,cd⟩:=c;obtain rfl:ck=6:=hp _ rfl;obtain⟨N,M⟩:=d
 repeat' first|(apply Ea;conv=>whnf)|apply Eb|apply Ec<;>intro _|apply Ed<;>intro _|apply Ee<;>intro _|apply Ef hT hP
 all_goals first
  |exact rfl
  |exact Qeo
  |exact of_decide_eq_true rfl
  |skip
 ·rename_i h;have h:(N.length:Int)=0:=h;obtain rfl:N=[]:=List.eq_nil_of_length_eq_zero (by omega);exact .k [] [6,7] _ R R
 ·rename_i h;have h:¬(N.length:Int)=0:=h;refine .mk [] [5,6] _ R R R R R (Qdw (l:=[N.getD 0 0%2560,N.getD 1 0%2]) ?_ rfl) rfl;show _=vN N;rw[vN,vP,if_neg (by omega)]
def Qpr:PSpec:=⟨[gC,gD,gi],fun(c,d,a,_)=>(some (c.2.1=6∧u8s d.2),.tup [.agg [.own 0,.own 1],I1 (vrF d.1 (vM d.2) a)],[.arr (.int .i64) (vrN d.1 a),.arr (.int .u8) (vM d.2)])⟩
theorem Qrf:G0 76 Qpr.spec:=by
 have hP:S0 _:=Qa Qcg (Qb (T:=tree));have hT:=tabs hP Qc;refine Qpr.gd hT hP Tryz.func76 fun(c:Cv) (d:Dv) (a:Int) hp=>?_
 obtain⟨cn,ck,cb,cs,cd⟩:=c;obtain⟨rfl,hu⟩:ck=6∧u8s d.2:=hp _ rfl;obtain⟨N,M⟩:=d;have hu:u8s M:=hu;have hP0:=Qc4 N;have hb:=Qdu (Qd1 hu) a.toNat;have e1:i64.wrap (Int.tdiv (vP N) 64)=vP N/64:=by rw[Int.tdiv_eq_ediv_of_nonneg hP0.1,w64 (by omega) (by omega)]
 have e2:Int.tmod (vP N) 64=vP N%64:=Int.tmod_eq_emod_of_nonneg hP0.1;have e3:i64.wrap (bA (vM M) a.toNat)=bA (vM M) a.toNat:=w64 (by omega) (by omega)
 repeat' first|(apply Ea;conv=>whnf)|apply Eb|apply Ec<;>intro _|apply Ed<;>intro _|apply Ee<;>intro _|apply Ef hT hP
 all_goals first
  |exact rfl
  |exact Qeo
  |exact of_decide_eq_true rfl
  |(show 0≤a∧a<(vM M).length
    rw[QaN];omega)
  |(show a.toNat<(vM M).length
    rw[QaN];omega)
  |(refine .mk [] [4,5] _ R R R R R (Qdw ?_ rfl) (QhN ?_)
    ·show _=vrN N a;rw[vrN];split<;>first|rfl|(exfalso;omega)
    ·show _=vrF N (vM M) a;rw[vrF];repeat' split
     all_goals first|rfl|exact e1|exact e2|exact e3|(exfalso;omega))
  |skip
def Qps:PSpec:=⟨[gC,gD,gi,gi],fun(c,d,a,k,_)=>(some (c.2.1=6),Qdv,[.arr (.int .i64) [vP d.1,vH d.1],.arr (.int .u8) (vwM (vM d.2) a k)])⟩
theorem Qrg:G0 77 Qps.spec:=by
 have hP:S0 _:=Qa Qcg (Qa Qco (Qb (T:=tree)));have hT:=tabs hP Qc;refine Qps.gd hT hP Tryz.func77 fun(c:Cv) (d:Dv) (a k:Int) hp=>?_
 obtain⟨cn,ck,cb,cs,cd⟩:=c;obtain rfl:ck=6:=hp _ rfl;obtain⟨N,M⟩:=d;have e:IntKind.u8.wrap (k%256)=k%256:=QB2 (by omega) (by omega)
 repeat' first|(apply Ea;conv=>whnf)|apply Eb|apply Ec<;>intro _|apply Ed<;>intro _|apply Ee<;>intro _|apply Ef hT hP
 all_goals first
  |exact rfl
  |exact Qeo
  |exact of_decide_eq_true rfl
  |(show 0≤a∧a<(vM M).length
    rw[QaN];omega)
  |(show a.toNat<(vM M).length
    rw[QaN];omega)
  |(exfalso;omega)
  |(refine .mk [] [3,4] _ R R R R R (Qdw rfl (?_:vM M=vwM (vM M) a k)) rfl
    rw[vwM,if_neg (fun e=>by omega)])
  |(refine .mk [] [3,4] _ R R R R R (Qdw rfl (?_:(vM M).set a.toNat (IntKind.u8.wrap (k%256))=vwM (vM M) a k)) rfl
    rw[vwM,if_pos ⟨⟨by omega,by omega⟩,by omega⟩,e])
  |skip
def Qpt:PSpec:=⟨[gC,gD],fun(c,d,_)=>(some (c.2.1=6∧u8s d.2),Qdv,[.arr (.int .i64) (QaS (vM d.2) (vN d.1)),.arr (.int .u8) (vM d.2)])⟩
theorem Qrh:G0 79 Qpt.spec:=by
 have hP:S0 _:=Qa Qcg (Qa Qka (Qb (T:=tree)));have hT:=tabs hP Qc;refine Qpt.gd hT hP Tryz.func79 fun(c:Cv) (d:Dv) hp=>?_
 obtain⟨cn,ck,cb,cs,cd⟩:=c;obtain⟨rfl,hu⟩:ck=6∧u8s d.2:=hp _ rfl;obtain⟨N,M⟩:=d;have hu:u8s M:=hu;have hP0:=Qc4 N;have hpos:Int.tmod (i64.wrap (vP N+1)) 2560=(vP N+1)%2560:=by rw[w64 (by omega) (by omega),Int.tmod_eq_emod_of_nonneg (by omega)]
 have hpos2:0≤Int.tmod (i64.wrap (vP N+1)) 2560∧Int.tmod (i64.wrap (vP N+1)) 2560<2560:=by rw[hpos];omega
 repeat' first|(apply Ea;conv=>whnf)|apply Eb|apply Ec<;>intro _|apply Ed<;>intro _|apply Ee<;>intro _|apply Ef hT hP
 all_goals first
  |exact rfl
  |exact Qeo
  |exact of_decide_eq_true rfl
  |exact⟨QaN M,Qd1 hu,hpos2.1,hpos2.2⟩
  |skip
 ·rename_i h;have h:QgF (vM M) (Int.tmod (i64.wrap (vP N+1)) 2560)=true:=h;refine .mk [] [3,4] _ R R R R R (Qdw (l:=[Int.tmod (i64.wrap (vP N+1)) 2560,1]) ?_ rfl) rfl;show _=QaS (vM M) (vN N);rw[hpos] at h ⊢;rw[vN,QaS,h];rfl
 ·rename_i h;have h:QgF (vM M) (Int.tmod (i64.wrap (vP N+1)) 2560)=false:=h;refine .mk [] [3,4] _ R R R R R (Qdw (l:=[Int.tmod (i64.wrap (vP N+1)) 2560,vH N]) ?_ rfl) rfl;show _=QaS (vM M) (vN N);rw[hpos] at h ⊢;rw[vN,QaS,h];rfl
def Qt2:PSpec:=⟨[gC,gD],fun(c,d,_)=>(some (c.2.1=6∧u8s d.2),I (QY (vM d.2) (vP d.1)),[])⟩
theorem Qt3:G0 72 Qt2.spec:=by
 have hP:S0 _:=Qa Qcg (Qa Qka (Qb (T:=tree)));have hT:=tabs hP Qc;refine Qt2.gd hT hP Tryz.func72 fun(c:Cv) (d:Dv) hp=>?_
 obtain⟨cn,ck,cb,cs,cd⟩:=c;obtain⟨rfl,hu⟩:ck=6∧u8s d.2:=hp _ rfl;obtain⟨N,M⟩:=d;have hu:u8s M:=hu;have hP0:=Qc4 N
 repeat' first|(apply Ea;conv=>whnf)|apply Eb|apply Ec<;>intro _|apply Ed<;>intro _|apply Ee<;>intro _|apply Ef hT hP
 all_goals first
  |exact rfl
  |exact Qeo
  |exact of_decide_eq_true rfl
  |exact⟨QaN M,Qd1 hu,hP0.1,hP0.2⟩
  |exact .k [] [] _ R R
def Qt4:PSpec:=⟨[gC,gD],fun(c,d,_)=>(some (c.2.1=6∧u8s d.2),I (Qb5 (vM d.2) (vP d.1)),[])⟩
theorem Qt5:G0 29 Qt4.spec:=by
 have hP:S0 _:=Qa Qcg (Qa Qka (Qb (T:=tree)));have hT:=tabs hP Qc;refine Qt4.gd hT hP Tryz.func29 fun(c:Cv) (d:Dv) hp=>?_
 obtain⟨cn,ck,cb,cs,cd⟩:=c;obtain⟨rfl,hu⟩:ck=6∧u8s d.2:=hp _ rfl;obtain⟨N,M⟩:=d;have hu:u8s M:=hu;have hP0:=Qc4 N
 repeat' first|(apply Ea;conv=>whnf)|apply Eb|apply Ec<;>intro _|apply Ed<;>intro _|apply Ee<;>intro _|apply Ef hT hP
 all_goals first
  |exact rfl
  |exact Qeo
  |exact of_decide_eq_true rfl
  |exact⟨QaN M,Qd1 hu,hP0.1,hP0.2⟩
  |skip
 refine Qai hT hP (X:=Int×Int) (fun(i,o)=>St.mk (E3 ((.cell (.ptr 0 0))::E1 ((.cell (.own 1))::(I o)::(I (QY (vM M) (vP N)))::E1 ((I i)::E40 (E40 (E40 (E3 []))))))) [some (.var [.own 1,.own 2]),some (.arr (.int .i64) (vN N)),some (.arr (.int .u8) (vM M))])
  (fun(i,o)=>∃j:Nat,i=2560-(j:Int)∧j≤2560∧o=QeG (vM M) (vP N) j) (fun(i,_)=>i.toNat) (2560,100000) (Le.k [] [1,2,3] ?_) ?_ fun(i,o) hi=>?_
 rotate_right
 repeat' first|(apply Ea;conv=>whnf)|apply Eb|apply Ec<;>intro _|apply Ed<;>intro _|apply Ee<;>intro _|apply Ef hT hP
 rotate_right 2
 ·repeat' constructor
 ·exact⟨0,rfl,Nat.zero_le _,rfl⟩
 all_goals
  obtain⟨j,rfl,hj,rfl⟩:=hi;have hpos:Int.tmod (i64.wrap (vP N+(2560-(j:Int)))) 2560=(vP N+(2560-(j:Int)))%2560:=by rw[w64 (by omega) (by omega),Int.tmod_eq_emod_of_nonneg (by omega)]
  have hpos2:0≤Int.tmod (i64.wrap (vP N+(2560-(j:Int)))) 2560∧Int.tmod (i64.wrap (vP N+(2560-(j:Int)))) 2560<2560:=by rw[hpos];omega
 all_goals first
  |decide
  |exact⟨QaN M,Qd1 hu,hpos2.1,hpos2.2⟩
  |(show(0:Int)≤0∧(0:Int)<2
    decide)
  |(show 0<2
    decide)
  |skip
 ·rename_i hh hlt;have hh:(QY (vM M) (Int.tmod (i64.wrap (vP N+(2560-(j:Int)))) 2560) != QY (vM M) (vP N))=true:=by first|exact hh|exact hlt
  have hlt:2560-(j:Int)>0:=by first|exact hlt|assumption
  rw[hpos] at hh;have e:i64.wrap (2560-(j:Int)-1)=2560-((j+1:Nat):Int):=by rw[w64 (by omega) (by omega)];omega
  apply Exists.intro (_,_);refine And.intro ?_ (And.intro ?_ (Le.k [] [0,1,2] ?hh))
  case hh=>repeat' constructor
  ·refine⟨j+1,e,by omega,?_⟩;rw[QfB _ _ (by unfold QdM;simpa using hh)];show i64.wrap (2560-(j:Int)-1)=_;rw[e];omega
  ·show(i64.wrap (2560-(j:Int)-1)).toNat<(2560-(j:Int)).toNat;rw[e];omega
 ·rename_i hh hlt;have hh:(QY (vM M) (Int.tmod (i64.wrap (vP N+(2560-(j:Int)))) 2560) != QY (vM M) (vP N))=false:=by first|exact hh|exact hlt
  have hlt:2560-(j:Int)>0:=by first|exact hlt|assumption
  rw[hpos] at hh;have e:i64.wrap (2560-(j:Int)-1)=2560-((j+1:Nat):Int):=by rw[w64 (by omega) (by omega)];omega
  apply Exists.intro (_,_);refine And.intro ?_ (And.intro ?_ (Le.k [] [0,1,2] ?hh))
  case hh=>repeat' constructor
  ·refine⟨j+1,e,by omega,?_⟩;rw[Qem _ _ (by unfold QdM;simpa using hh)]
  ·show(i64.wrap (2560-(j:Int)-1)).toNat<(2560-(j:Int)).toNat;rw[e];omega
 ·rename_i hlt;have hlt:¬2560-(j:Int)>0:=hlt;have ej:j=2560:=by omega
  refine .k [] [] _ rfl (Qd ?_);rw[ej];rfl
set_option linter.constructorNameAsVariable false
abbrev QiM:V1:=.agg [.own 0,.own 1]
def QE8:PSpec:=⟨[],fun _=>(none,Qdv,[.arr (.int .i64) [0,0,0,0],.arr (.int .u8) []])⟩
theorem QxR:G0 110 QE8.spec:=QQ.nil (.int .u8) QCa (fun xs hp=>⟨hp,rfl,rfl⟩)
def QCq:PSpec:=⟨[gD,gi],fun(d,k,_)=>(some (k≤4611686018427387904),Qdv,[.arr (.int .i64) (QaX k.toNat (Qbf d.1)),.arr (.int .u8) []])⟩
theorem Qt6:G0 156 QCq.spec:=QQ.nil (.int .u8) QxF (fun xs hp=>⟨hp,rfl,rfl⟩)
def QxS:PSpec:=⟨[gD,gi,gi],fun(d,a,k,_)=>(none,Qdv,[.arr (.int .i64) (twN d.1 a k),.arr (.int .u8) []])⟩
theorem Qri:G0 180 QxS.spec:=QQ.nil (.int .u8) QtH (fun xs hp=>⟨hp,rfl,rfl⟩)
def QCr:PSpec:=⟨[gD,gi],fun(d,a,_)=>(none,.tup [QiM,I1 (trF d.1 a)],[.arr (.int .i64) (trN d.1 a),.arr (.int .u8) []])⟩
theorem Qt7:G0 173 QCr.spec:=QQ.nil (.int .u8) QxI (fun xs hp=>⟨hp,rfl,rfl⟩)
def QE9:PSpec:=⟨[],fun _=>(none,Qdv,[.arr (.int .i64) [255,0,0],.arr (.int .u8) []])⟩
theorem QxT:G0 111 QE9.spec:=QQ.nil (.int .u8) QB7 (fun xs hp=>⟨hp,rfl,rfl⟩)
def QIU:PSpec:=⟨[gD,gi],fun(d,k,_)=>(none,Qdv,[.arr (.int .i64) (QxC d.1 k),.arr (.int .u8) []])⟩
theorem Qt8:G0 157 QIU.spec:=QQ.nil (.int .u8) QEN (fun xs hp=>⟨hp,rfl,rfl⟩)
def QxU:PSpec:=⟨[gD,gi,gi],fun(d,a,k,_)=>(none,Qdv,[.arr (.int .i64) (pwN d.1 a k),.arr (.int .u8) []])⟩
theorem Qrj:G0 181 QxU.spec:=QQ.nil (.int .u8) QtA (fun xs hp=>⟨hp,rfl,rfl⟩)
def QCs:PSpec:=⟨[gD,gi],fun(d,a,_)=>(none,.tup [QiM,I1 (QfD d.1 a)],[.arr (.int .i64) (Qax d.1),.arr (.int .u8) []])⟩
theorem Qt9:G0 174 QCs.spec:=QQ.nil (.int .u8) QxD (fun xs hp=>⟨hp,rfl,rfl⟩)
def QFa:PSpec:=⟨[],fun _=>(none,Qdv,[.arr (.int .i64) [0,0,0,0,0,0,0,0],.arr (.int .u8) []])⟩
theorem QxV:G0 112 QFa.spec:=QQ.nil (.int .u8) QBL (fun xs hp=>⟨hp,rfl,rfl⟩)
def QCt:PSpec:=⟨[gD,gi],fun(d,k,_)=>(some (k≤4611686018427387904),Qdv,[.arr (.int .i64) (Qq Qab k.toNat (Qa9 d.1)),.arr (.int .u8) []])⟩
theorem Qua:G0 159 QCt.spec:=QQ.nil (.int .u8) Qxg (fun xs hp=>⟨hp,rfl,rfl⟩)
def QIV:PSpec:=⟨[gD,gi],fun(d,k,_)=>(none,Qdv,[.arr (.int .i64) (QlD d.1 k),.arr (.int .u8) []])⟩
theorem QCu:G0 242 QIV.spec:=QQ.nil (.int .u8) QEr (fun xs hp=>⟨hp,rfl,rfl⟩)
def QxW:PSpec:=⟨[gD,gi,gi],fun(d,a,k,_)=>(none,Qdv,[.arr (.int .i64) (swN d.1 a k),.arr (.int .u8) []])⟩
theorem Qrk:G0 182 QxW.spec:=QQ.nil (.int .u8) QtL (fun xs hp=>⟨hp,rfl,rfl⟩)
def QCv:PSpec:=⟨[gD,gi],fun(d,a,_)=>(none,.tup [QiM,I1 (srF d.1 a)],[.arr (.int .i64) (srN d.1 a),.arr (.int .u8) []])⟩
theorem Qub:G0 175 QCv.spec:=QQ.nil (.int .u8) Qxi (fun xs hp=>⟨hp,rfl,rfl⟩)
def QFb:PSpec:=⟨[],fun _=>(none,Qdv,[.arr (.int .i64) (List.replicate 12 0),.arr (.int .u8) []])⟩
theorem QxX:G0 114 QFb.spec:=QQ.nil (.int .u8) QCi (fun xs hp=>⟨hp,rfl,rfl⟩)
def QCw:PSpec:=⟨[gD,gi],fun(d,k,_)=>(some (k≤10000000),Qdv,[.arr (.int .i64) (Qq QaO k.toNat (Qah d.1)),.arr (.int .u8) []])⟩
theorem Quc:G0 161 QCw.spec:=QQ.nil (.int .u8) QxN (fun xs hp=>⟨hp,rfl,rfl⟩)
def QxY:PSpec:=⟨[gD,gi,gi],fun(d,a,k,_)=>(none,Qdv,[.arr (.int .i64) (owF d.1 a k),.arr (.int .u8) []])⟩
theorem Qrl:G0 184 QxY.spec:=QQ.nil (.int .u8) QtW (fun xs hp=>⟨hp,rfl,rfl⟩)
def QCx:PSpec:=⟨[gD,gi],fun(d,a,_)=>(none,.tup [QiM,I1 (orF d.1 a)],[.arr (.int .i64) (Qah d.1),.arr (.int .u8) []])⟩
theorem Qud:G0 177 QCx.spec:=QQ.nil (.int .u8) QxP (fun xs hp=>⟨hp,rfl,rfl⟩)
theorem kinds(k:Int):k=0∨k=1∨k=2∨k=3∨k=4∨k=5∨k=6∨k=7∨k=8∨(k<0∨8<k):=by omega
def sel{α:Type}(k:Int)(m t p s v o r x:α):α:=if 0≤k∧k≤2 then m else if k=3 then t else if k=4 then p else if k=5 then s else if k=6 then v else if k=7 then o else if k=8 then r else x
theorem Qaa{α:Type}{k:Int}(h:k<0∨8<k)(m t p s v o r x:α):sel k m t p s v o r x=x:=by
 unfold sel;rw[if_neg (by omega),if_neg (by omega),if_neg (by omega),if_neg (by omega),if_neg (by omega),if_neg (by omega),if_neg (by omega)]
theorem kx3{k:Int}(h:k<0∨8<k):k<3∨k=4∨8<k:=by omega
theorem k3{k:Int}(h:k<3∨k=4∨8<k):k<3∨k=4∨8<k:=h
def Q4(c:Cv)(d:Dv):Dv:=sel c.2.1 (memN c d.1,QaT c d.2) (Qbf d.1,[]) (Qax d.1,[]) (Qa9 d.1,[]) (vN d.1,vM d.2) (Qah d.1,[]) (dN d.1 (qF d.2),dM d.2) ([],[])
def Qh(c:Cv)(d:Dv):Dv:=sel c.2.1 (memN c d.1,QaT c d.2) (QaE (Qbf d.1),[]) (Qax d.1,[]) (Qab (Qa9 d.1),[]) (QaS (vM d.2) (vN d.1),vM d.2) (QaO (Qah d.1),[]) (Qat (dN d.1 (qF d.2),dM d.2)) ([],[])
def QxZ:PSpec:=⟨[gC,gD],fun(c,d,_)=>(some (cP c∧List.length d.2≤140737488355328),Qdv,[.arr (.int .i64) (Q4 c d).1,.arr (.int .u8) (Q4 c d).2])⟩
theorem QbH:G0 58 QxZ.spec:=by
 refine QQ.sel Qe0 fun(c,d,_) hp=>?_
 obtain⟨cn,ck,cb,cs,cd⟩:=c;obtain⟨N,M⟩:=d;obtain⟨hc,hl⟩:cP (cn,ck,cb,cs,cd)∧List.length M≤140737488355328:=hp _ rfl;clear hp;show∃o1:Args [gC,gD]→Option Prop×AV×List Blk,_;rcases kinds ck with rfl|rfl|rfl|rfl|rfl|rfl|rfl|rfl|rfl|hx
 ·exact⟨_,Qgj,fun q hq=>by cases hq;exact⟨hc,.inl rfl⟩,.refl⟩
 ·exact⟨_,Qgj,fun q hq=>by cases hq;exact⟨hc,.inr (.inl rfl)⟩,.refl⟩
 ·exact⟨_,Qgj,fun q hq=>by cases hq;exact⟨hc,.inr (.inr rfl)⟩,.refl⟩
 ·exact⟨_,Qce,fun q hq=>by cases hq;rfl,.nil (.int .u8) rfl .refl⟩
 ·exact⟨_,Qc7,fun q hq=>by cases hq;rfl,.nil (.int .u8) rfl .refl⟩
 ·exact⟨_,Qbu,fun q hq=>by cases hq;rfl,.nil (.int .u8) rfl .refl⟩
 ·exact⟨_,Qcg,fun q hq=>by cases hq;rfl,.refl⟩
 ·exact⟨_,Qcf,fun q hq=>by cases hq;rfl,.nil (.int .u8) rfl .refl⟩
 ·exact⟨_,Qcr,fun q hq=>by cases hq;exact⟨rfl,hl⟩,.refl⟩
 ·refine⟨_,QqX,fun q hq=>by cases hq;exact hx,?_⟩;have e:Q4 (cn,ck,cb,cs,cd) (N,M)=([],[]):=Qaa hx ..;show Conv (Qdv,[Blk.arr (.int .i64) [],.arr (.int .u8) []]) (Qdv,[.arr (.int .i64) (Q4 (cn,ck,cb,cs,cd) (N,M)).1,.arr (.int .u8) (Q4 (cn,ck,cb,cs,cd) (N,M)).2]);rw[e];exact .refl
def Qx0:PSpec:=⟨[gC,gD],fun(c,d,_)=>(some (cP c∧dP d),Qdv,[.arr (.int .i64) (Qh c d).1,.arr (.int .u8) (Qh c d).2])⟩
def Ql5:PSpec:=⟨[gC,gD],fun(c,d,_)=>(some (cP c∧dP d∧(c.2.1<3∨c.2.1=4∨8<c.2.1)),Qdv,[.arr (.int .i64) (Q4 c d).1,.arr (.int .u8) (Q4 c d).2])⟩
theorem QbI:G0 79 Ql5.spec:=by
 have hP:S0 _:=Qa QbH (Qb (T:=tree));have hT:=tabs hP Qc;refine Ql5.gd hT hP Tryz.func79 fun(c:Cv) (d:Dv) hp=>?_
 obtain⟨cn,ck,cb,cs,cd⟩:=c;obtain⟨N,M⟩:=d;obtain⟨hc,⟨hl,hu⟩,hx⟩:cP (cn,ck,cb,cs,cd)∧dP (N,M)∧(ck<3∨ck=4∨8<ck):=hp _ rfl;clear hp
 repeat' first|(apply Ea;conv=>whnf)|apply Eb|apply Ec<;>intro _|apply Ed<;>intro _|apply Ee<;>intro _|apply Ef hT hP
 all_goals(try dsimp only[Qf] at *)
 all_goals first
  |exact⟨hc,hl⟩
  |omega
  |exact .k [] [3,4] _ R R
  |skip
theorem Qrm:G0 79 Qx0.spec:=by
 refine QQ.sel QbI fun(c,d,_) hp=>?_
 obtain⟨cn,ck,cb,cs,cd⟩:=c;obtain⟨N,M⟩:=d;obtain⟨hc,hl,hu⟩:cP (cn,ck,cb,cs,cd)∧dP (N,M):=hp _ rfl;clear hp;show∃o1:Args [gC,gD]→Option Prop×AV×List Blk,_;rcases kinds ck with rfl|rfl|rfl|rfl|rfl|rfl|rfl|rfl|rfl|hx
 ·exact⟨_,QbI,fun q hq=>by cases hq;exact⟨hc,⟨hl,hu⟩,.inl (by decide:(0:Int)<3)⟩,.refl⟩
 ·exact⟨_,QbI,fun q hq=>by cases hq;exact⟨hc,⟨hl,hu⟩,.inl (by decide:(1:Int)<3)⟩,.refl⟩
 ·exact⟨_,QbI,fun q hq=>by cases hq;exact⟨hc,⟨hl,hu⟩,.inl (by decide:(2:Int)<3)⟩,.refl⟩
 ·exact⟨_,QtE,fun q hq=>by cases hq;rfl,.nil (.int .u8) rfl .refl⟩
 ·exact⟨_,QbI,fun q hq=>by cases hq;exact⟨hc,⟨hl,hu⟩,.inr (.inl rfl)⟩,.refl⟩
 ·exact⟨_,QqN,fun q hq=>by cases hq;rfl,.nil (.int .u8) rfl .refl⟩
 ·exact⟨_,Qrh,fun q hq=>by cases hq;exact⟨rfl,hu⟩,.refl⟩
 ·exact⟨_,Qre,fun q hq=>by cases hq;rfl,.nil (.int .u8) rfl .refl⟩
 ·exact⟨_,Qno,fun q hq=>by cases hq;exact⟨rfl,hl,hu⟩,.refl⟩
 ·refine⟨_,QbI,fun q hq=>by cases hq;exact⟨hc,⟨hl,hu⟩,kx3 hx⟩,?_⟩;have e:Q4 (cn,ck,cb,cs,cd) (N,M)=Qh (cn,ck,cb,cs,cd) (N,M):=by unfold Q4 Qh;rw[Qaa hx,Qaa hx]
  show Conv (Qdv,[Blk.arr (.int .i64) (Q4 (cn,ck,cb,cs,cd) (N,M)).1,.arr (.int .u8) (Q4 (cn,ck,cb,cs,cd) (N,M)).2]) _;rw[e];exact .refl
def Qc9(c:Cv)(d:Dv)(k:Int):Dv:=sel c.2.1 (memN c d.1,QaT c d.2) (QaX k.toNat (Qbf d.1),[]) (Qax d.1,[]) (Qq Qab k.toNat (Qa9 d.1),[]) (Qq (QaS (vM d.2)) k.toNat (vN d.1),vM d.2) (Qq QaO k.toNat (Qah d.1),[]) (Qxw k (dN d.1 (qF d.2),dM d.2)) ([],[])
def QAt:PSpec:=⟨[gD],fun(d,_)=>(none,I (d.1.getD 0 0),[])⟩
theorem Qx1:G0 158 QAt.spec:=by
 have hP:S0 _:=(Qb (T:=tree))
 have hT:=tabs hP Qc;refine QAt.gd hT hP Tryz.func158 fun(d:Dv) _=>?_
 obtain⟨N,M⟩:=d
 repeat' first|(apply Ea;conv=>whnf)|apply Eb|apply Ec<;>intro _|apply Ed<;>intro _|apply Ee<;>intro _|apply Ef hT hP
 all_goals(try dsimp only[Qf] at *)
 ·rename_i h;obtain rfl:N=[]:=List.eq_nil_of_length_eq_zero (by omega);exact .k [] [] _ R R
 ·rename_i h;show 0≤(0:Int)∧(0:Int)<(N.length:Int);omega
 ·exact .k [] [] _ R R
def QAu:PSpec:=⟨[gC,gD,gi],fun(c,d,k,_)=>(some (cP c∧dP d∧k≤1000000),Qdv,[.arr (.int .i64) (Qc9 c d k).1,.arr (.int .u8) (Qc9 c d k).2])⟩
theorem Qkf:G0 85 QAu.spec:=by
 have hP:S0 _:=Qa Qnl (Qa Qt6 (Qa Qt8 (Qa Qx1 (Qa Qua (Qa Qxz (Qa Quc (Qa Qxx (Qb (T:=tree)))))))));have hT:=tabs hP Qc;refine QAu.gd hT hP Tryz.func85 fun(c:Cv) (d:Dv) (k:Int) hp=>?_
 obtain⟨cn,ck,cb,cs,cd⟩:=c;obtain⟨N,M⟩:=d;obtain⟨hc,⟨hl,hu⟩,hk⟩:cP (cn,ck,cb,cs,cd)∧dP (N,M)∧k≤1000000:=hp _ rfl;clear hp;rcases kinds ck with rfl|rfl|rfl|rfl|rfl|rfl|rfl|rfl|rfl|hx
 all_goals
  repeat' first|(apply Ea;conv=>whnf)|apply Eb|apply Ec<;>intro _|apply Ed<;>intro _|apply Ee<;>intro _|apply Ef hT hP
  all_goals(try dsimp only[Qf] at *)
 all_goals first
  |exact hc
  |exact Int.le_trans hk (by decide)
  |exact⟨hu,Int.le_trans hk (by decide)⟩
  |exact⟨hl,hu,hk⟩
  |exact .k [] [3,4] _ R R
  |(exfalso;omega)
  |(refine .le (Le.nilH 2 (.int .i64) _ _ R R R) (.le (Le.nilH 2 (.int .u8) _ _ R R R) (.mk [] [3,4] _ R R R R R (Qt (l:=[]) (m:=[]) ?_ ?_) rfl))<;>(unfold Qc9;rw[Qaa hx]))
  |skip
 all_goals trace_state
theorem Qx2{l M:List Int}(h1:u8s l)(h2:u8s M):u8s (over l M 0):=by
 rw[QeV];intro x hx;rcases List.mem_append.1 hx with hx|hx
 ·exact h2 x (List.mem_of_mem_drop (List.mem_of_mem_take hx))
 ·exact h1 x (List.mem_of_mem_drop hx)
theorem Qx3(n:Nat):u8s (List.replicate n 0):=fun x hx=>by
 rw[List.eq_of_mem_replicate hx];decide
theorem Qh2(c:Cv){M:List Int}(h:u8s M):u8s (QaT c M):=Qx2 (Qx3 _) h
theorem Qkg{M:List Int}(h:u8s M)(n:Nat):0≤M.getD n 0∧M.getD n 0<256:=by
 by_cases hn:n<M.length
 ·rw[List.getD_eq_getElem?_getD,List.getElem?_eq_getElem hn];exact h _ (List.getElem_mem hn)
 ·rw[List.getD_eq_getElem?_getD,List.getElem?_eq_none (by omega)];decide
theorem QCy{M:List Int}(h:u8s M)(n:Nat):i64.wrap (M.getD n 0)=M.getD n 0:=by
 have:=Qkg h n;exact w64 (by omega) (by omega)
def QB(c:Cv)(d:Dv)(a:Int):Int:=if c.2.1=2 then (if a<1∨a>Qba c then -1 else d.1.getD 0 0*Qba c+a-1) else if a<0∨a≥(List.length d.2:Nat) then -1 else a
def Que(c:Cv)(d:Dv):Prop:=cP c∧(c.2.1=2→0<List.length d.1∧0≤d.1.getD 0 0∧d.1.getD 0 0<Qao c)
theorem Qkh{n b w:Int}(h0:0≤n)(h1:n<b)(hw:1≤w):0≤n*w∧n*w+w≤b*w:=by
 have h2:(n+1)*w≤b*w:=Int.mul_le_mul_of_nonneg_right (by omega) (by omega);have h3:0≤n*w:=Int.mul_nonneg h0 (by omega);rw[Int.add_mul,Int.one_mul] at h2;exact⟨h3,h2⟩
def Quf:PSpec:=⟨[gC,gD,gi],fun(c,d,a,_)=>(some (Que c d),I (QB c d a),[])⟩
theorem Ql6:G0 232 Quf.spec:=by
 have hP:S0 _:=Qa QhR (Qb (T:=tree));have hT:=tabs hP Qc;refine Quf.gd hT hP Tryz.func232 fun(c:Cv) (d:Dv) (a:Int) hp=>?_
 obtain⟨cn,ck,cb,cs,cd⟩:=c;obtain⟨N,M⟩:=d;obtain⟨hc,hx⟩:Que (cn,ck,cb,cs,cd) (N,M):=hp _ rfl;clear hp;have hx:ck=2→0<N.length∧0≤N.getD 0 0∧N.getD 0 0<Qao (cn,ck,cb,cs,cd):=hx;obtain⟨w1,w2⟩:=QcP (cn,ck,cb,cs,cd);obtain⟨b1,b2,b3⟩:=Qa7 hc.2.2
 repeat' first|(apply Ea;conv=>whnf)|apply Eb|apply Ec<;>intro _|apply Ed<;>intro _|apply Ee<;>intro _|apply Ef hT hP
 all_goals(try dsimp only[Qf] at *)
 all_goals clear hT hP
 ·rename_i g1 g2;refine .k [] [] _ rfl (Qd ?_);exact(by unfold QB;rw[if_pos g1,if_pos (.inl g2)]:-1=QB (cn,ck,cb,cs,cd) (N,M) a)
 ·rename_i g1 g2 g3;refine .k [] [] _ rfl (Qd ?_);exact(by unfold QB;rw[if_pos g1,if_pos (.inr g3)]:-1=QB (cn,ck,cb,cs,cd) (N,M) a)
 ·rename_i g1 g2 g3;have:=hx g1;show(0:Int)≤0∧(0:Int)<(N.length:Int);omega
 ·rename_i g1 g2 g3;refine .k [] [] _ rfl (Qd ?_);show i64.wrap (i64.wrap (i64.wrap (N.getD 0 0*Qba (cn,ck,cb,cs,cd))+a)-1)=QB (cn,ck,cb,cs,cd) (N,M) a;obtain⟨_,n0,n1⟩:=hx g1;obtain⟨m1,m2⟩:=Qkh n0 n1 w1;have g2:¬a<1:=g2;have g3:¬a>Qba (cn,ck,cb,cs,cd):=g3;have b3:Qao (cn,ck,cb,cs,cd)*Qba (cn,ck,cb,cs,cd)≤140737488355328:=b3;unfold QB;rw[if_pos (show(cn,ck,cb,cs,cd).2.1=2 from g1),if_neg (by omega),w64 (x:=N.getD 0 0*Qba (cn,ck,cb,cs,cd)) (by omega) (by omega),w64 (x:=N.getD 0 0*Qba (cn,ck,cb,cs,cd)+a) (by omega) (by omega),w64 (by omega) (by omega)]
 ·rename_i g1 g2;refine .k [] [] _ rfl (Qd ?_);exact(by unfold QB;rw[if_neg g1,if_pos (.inl g2)]:-1=QB (cn,ck,cb,cs,cd) (N,M) a)
 ·rename_i g1 g2 g3;refine .k [] [] _ rfl (Qd ?_);exact(by unfold QB;rw[if_neg g1,if_pos (.inr g3)]:-1=QB (cn,ck,cb,cs,cd) (N,M) a)
 ·rename_i g1 g2 g3;refine .k [] [] _ rfl (Qd ?_);exact(by unfold QB;rw[if_neg g1,if_neg (fun h=>h.elim g2 g3)]:a=QB (cn,ck,cb,cs,cd) (N,M) a)
def QcR(c:Cv)(d:Dv):Dv:=(memN c d.1,QaT c d.2)
theorem Qep{c:Cv}(d:Dv)(h:cP c):Que c (QcR c d):=by
 refine⟨h,fun hk=>?_⟩;obtain⟨b1,b2,b3⟩:=Qa7 h.2.2;unfold QcR memN;rw[if_pos hk];exact⟨by show 0<1;omega,Int.emod_nonneg _ (by omega),Int.emod_lt_of_pos _ (by omega)⟩
theorem Qd3{c:Cv}(d:Dv)(h:cP c){a:Int}(h2:QB c (QcR c d) a≥0):QB c (QcR c d) a<((QaT c d.2).length:Nat):=by
 obtain⟨b1,b2,b3⟩:=Qa7 h.2.2;obtain⟨w1,w2⟩:=QcP c;obtain⟨_,hx⟩:=Qep d h;unfold QB at h2 ⊢;by_cases hk:c.2.1=2
 ·rw[if_pos hk] at h2 ⊢;by_cases ha:a<1∨a>Qba c
  ·rw[if_pos ha] at h2;omega
  ·rw[if_neg ha];obtain⟨_,n0,n1⟩:=hx hk;obtain⟨m1,m2⟩:=Qkh n0 n1 w1;rw[Qkb,QbD,if_pos hk];omega
 ·rw[if_neg hk] at h2 ⊢;by_cases ha:a<0∨a≥((QcR c d).2.length:Nat)
  ·rw[if_pos ha] at h2;omega
  ·rw[if_neg ha];show a<((QcR c d).2.length:Nat);omega
def Qb2(c:Cv)(d:Dv)(a:Int):Int:=if QB c (QcR c d) a≥0 then (QaT c d.2).getD (QB c (QcR c d) a).toNat 0 else if c.2.1=2∧a=0 then (memN c d.1).getD 0 0 else 0
def Qug:PSpec:=⟨[gC,gD,gi],fun(c,d,a,_)=>(some (cP c∧dP d),.tup [QiM,I1 (Qb2 c d a)],[.arr (.int .i64) (memN c d.1),.arr (.int .u8) (QaT c d.2)])⟩
theorem Quh:G0 172 Qug.spec:=by
 have hP:S0 _:=Qa Qnl (Qa Ql6 (Qb (T:=tree)));have hT:=tabs hP Qc;refine Qug.gd hT hP Tryz.func172 fun(c:Cv) (d:Dv) (a:Int) hp=>?_
 obtain⟨cn,ck,cb,cs,cd⟩:=c;obtain⟨N,M⟩:=d;obtain⟨hc,hl,hu⟩:cP (cn,ck,cb,cs,cd)∧dP (N,M):=hp _ rfl;clear hp;have h0:=Qep (N,M) hc;have h1:=@Qd3 _ (N,M) hc a
 repeat' first|(apply Ea;conv=>whnf)|apply Eb|apply Ec<;>intro _|apply Ed<;>intro _|apply Ee<;>intro _|apply Ef hT hP
 all_goals(try dsimp only[Qf] at *)
 all_goals clear hT hP
 ·exact hc
 ·exact h0
 ·rename_i g;have h1:=h1 g;exact⟨g,h1⟩
 ·rename_i g;have h1:=h1 g;have h1:QB (cn,ck,cb,cs,cd) (memN (cn,ck,cb,cs,cd) N,QaT (cn,ck,cb,cs,cd) M) a<((QaT (cn,ck,cb,cs,cd) M).length:Nat):=h1;omega
 ·rename_i g;refine .k [] [3,4] _ rfl (Qd0 ?_);show i64.wrap ((QaT (cn,ck,cb,cs,cd) M).getD (QB (cn,ck,cb,cs,cd) (memN (cn,ck,cb,cs,cd) N,QaT (cn,ck,cb,cs,cd) M) a).toNat 0)=Qb2 (cn,ck,cb,cs,cd) (N,M) a;rw[QCy (Qh2 _ hu),Qb2,if_pos (show QB (cn,ck,cb,cs,cd) (QcR (cn,ck,cb,cs,cd) (N,M)) a≥0 from g)];rfl
 ·rename_i g g1 g2;exact⟨Int.le_refl _,by have:0<(memN (cn,ck,cb,cs,cd) N).length:=(h0.2 g1).1;show(0:Int)<((memN (cn,ck,cb,cs,cd) N).length:Nat);omega⟩
 ·rename_i g g1 g2;exact(h0.2 g1).1
 ·rename_i g g1 g2;refine .k [] [3,4] _ rfl (Qd0 ?_);show(memN (cn,ck,cb,cs,cd) N).getD 0 0=Qb2 (cn,ck,cb,cs,cd) (N,M) a;rw[Qb2,if_neg (show¬QB (cn,ck,cb,cs,cd) (QcR (cn,ck,cb,cs,cd) (N,M)) a≥0 from g),if_pos ⟨g1,g2⟩]
 ·rename_i g g1 g2;refine .k [] [3,4] _ rfl (Qd0 ?_);show 0=Qb2 (cn,ck,cb,cs,cd) (N,M) a;rw[Qb2,if_neg (show¬QB (cn,ck,cb,cs,cd) (QcR (cn,ck,cb,cs,cd) (N,M)) a≥0 from g),if_neg (fun h=>g2 h.2)]
 ·rename_i g g1;refine .k [] [3,4] _ rfl (Qd0 ?_);show 0=Qb2 (cn,ck,cb,cs,cd) (N,M) a;rw[Qb2,if_neg (show¬QB (cn,ck,cb,cs,cd) (QcR (cn,ck,cb,cs,cd) (N,M)) a≥0 from g),if_neg (fun h=>g1 h.1)]
def QaY(c:Cv)(d:Dv)(a k:Int):Dv:=if c.2.1=1 then QcR c d else if QB c (QcR c d) a≥0 then (memN c d.1,(QaT c d.2).set (QB c (QcR c d) a).toNat (k%256)) else if c.2.1=2∧a=0 then ((memN c d.1).set 0 (k%256%Qao c),QaT c d.2) else QcR c d
def Qpu:PSpec:=⟨[gC,gD,gi,gi],fun(c,d,a,k,_)=>(some (cP c),Qdv,[.arr (.int .i64) (QaY c d a k).1,.arr (.int .u8) (QaY c d a k).2])⟩
theorem Qrn:G0 179 Qpu.spec:=by
 have hP:S0 _:=Qa Qnl (Qa Ql6 (Qa QN (Qa QhS (Qb (T:=tree)))));have hT:=tabs hP Qc;refine Qpu.gd hT hP Tryz.func179 fun(c:Cv) (d:Dv) (a k:Int) hp=>?_
 obtain⟨cn,ck,cb,cs,cd⟩:=c;obtain⟨N,M⟩:=d;have hc:cP (cn,ck,cb,cs,cd):=hp _ rfl;clear hp;have h0:=Qep (N,M) hc;have h1:=@Qd3 _ (N,M) hc a;obtain⟨b1,b2,b3⟩:=Qa7 hc.2.2
 repeat' first|(apply Ea;conv=>whnf)|apply Eb|apply Ec<;>intro _|apply Ed<;>intro _|apply Ee<;>intro _|apply Ef hT hP
 all_goals(try dsimp only[Qf] at *)
 all_goals clear hT hP
 ·exact hc
 ·exact h0
 ·rename_i g;refine .mk [] [3,4] _ R R R R R (Qt (l:=memN (cn,ck,cb,cs,cd) N) (l':=(QaY (cn,ck,cb,cs,cd) (N,M) a k).1) (m:=QaT (cn,ck,cb,cs,cd) M) (m':=(QaY (cn,ck,cb,cs,cd) (N,M) a k).2) ?_ ?_) rfl
  all_goals(rw[QaY,if_pos (show(cn,ck,cb,cs,cd).2.1=1 from g)];rfl)
 ·exact of_decide_eq_true rfl
 ·rename_i g0 g;exact⟨g,h1 g⟩
 ·rename_i g0 g;have h1:=h1 g;have h1:QB (cn,ck,cb,cs,cd) (memN (cn,ck,cb,cs,cd) N,QaT (cn,ck,cb,cs,cd) M) a<((QaT (cn,ck,cb,cs,cd) M).length:Nat):=h1;omega
 ·rename_i g0 g;refine .mk [] [3,4] _ R R R R R (Qt (l:=memN (cn,ck,cb,cs,cd) N) (l':=(QaY (cn,ck,cb,cs,cd) (N,M) a k).1) (m:=(QaT (cn,ck,cb,cs,cd) M).set (QB (cn,ck,cb,cs,cd) (QcR (cn,ck,cb,cs,cd) (N,M)) a).toNat (IntKind.u8.wrap (k%256))) (m':=(QaY (cn,ck,cb,cs,cd) (N,M) a k).2) ?_ ?_) rfl
  all_goals rw[QaY,if_neg (show¬(cn,ck,cb,cs,cd).2.1=1 from g0),if_pos (show QB (cn,ck,cb,cs,cd) (QcR (cn,ck,cb,cs,cd) (N,M)) a≥0 from g)]
  have e:IntKind.u8.wrap (k%256)=k%256:=by show k%256%256=k%256;omega
  rw[e]
 ·exact of_decide_eq_true rfl
 ·exact hc.2.2
 ·show Qao (cn,ck,cb,cs,cd)≠0;omega
 ·rename_i g0 g g1 g2;exact⟨Int.le_refl _,by have:0<(memN (cn,ck,cb,cs,cd) N).length:=(h0.2 g1).1;show(0:Int)<((memN (cn,ck,cb,cs,cd) N).length:Nat);omega⟩
 ·rename_i g0 g g1 g2;exact(h0.2 g1).1
 ·rename_i g0 g g1 g2;refine .mk [] [3,4] _ R R R R R (Qt (l:=(memN (cn,ck,cb,cs,cd) N).set 0 (Int.tmod (k%256) (Qao (cn,ck,cb,cs,cd)))) (l':=(QaY (cn,ck,cb,cs,cd) (N,M) a k).1) (m:=QaT (cn,ck,cb,cs,cd) M) (m':=(QaY (cn,ck,cb,cs,cd) (N,M) a k).2) ?_ ?_) rfl
  all_goals rw[QaY,if_neg (show¬(cn,ck,cb,cs,cd).2.1=1 from g0),if_neg (show¬QB (cn,ck,cb,cs,cd) (QcR (cn,ck,cb,cs,cd) (N,M)) a≥0 from g),if_pos ⟨g1,g2⟩]
  rw[Int.tmod_eq_emod_of_nonneg (by omega)]
 ·rename_i g0 g g1 g2;refine .mk [] [3,4] _ R R R R R (Qt (l:=memN (cn,ck,cb,cs,cd) N) (l':=(QaY (cn,ck,cb,cs,cd) (N,M) a k).1) (m:=QaT (cn,ck,cb,cs,cd) M) (m':=(QaY (cn,ck,cb,cs,cd) (N,M) a k).2) ?_ ?_) rfl
  all_goals(rw[QaY,if_neg (show¬(cn,ck,cb,cs,cd).2.1=1 from g0),if_neg (show¬QB (cn,ck,cb,cs,cd) (QcR (cn,ck,cb,cs,cd) (N,M)) a≥0 from g),if_neg (fun h=>g2 h.2)];rfl)
 ·rename_i g0 g g1;refine .mk [] [3,4] _ R R R R R (Qt (l:=memN (cn,ck,cb,cs,cd) N) (l':=(QaY (cn,ck,cb,cs,cd) (N,M) a k).1) (m:=QaT (cn,ck,cb,cs,cd) M) (m':=(QaY (cn,ck,cb,cs,cd) (N,M) a k).2) ?_ ?_) rfl
  all_goals(rw[QaY,if_neg (show¬(cn,ck,cb,cs,cd).2.1=1 from g0),if_neg (show¬QB (cn,ck,cb,cs,cd) (QcR (cn,ck,cb,cs,cd) (N,M)) a≥0 from g),if_neg (fun h=>g1 h.1)];rfl)
def loadD(c:Cv)(d:Dv)(a:Int):Dv:=sel c.2.1 (QcR c d) (trN d.1 a,[]) (Qax d.1,[]) (srN d.1 a,[]) (vrN d.1 a,vM d.2) (Qah d.1,[]) (drN d.1 (qF d.2) a,dM d.2) ([],[])
def loadI(c:Cv)(d:Dv)(a:Int):Int:=sel c.2.1 (Qb2 c d a) (trF d.1 a) (QfD d.1 a) (srF d.1 a) (vrF d.1 (vM d.2) a) (orF d.1 a) (drF d.1 (qF d.2) a) 0
def Qbb(c:Cv)(d:Dv)(a k:Int):Dv:=sel c.2.1 (QaY c d a k) (twN d.1 a k,[]) (pwN d.1 a k,[]) (swN d.1 a k,[]) ([vP d.1,vH d.1],vwM (vM d.2) a k) (owF d.1 a k,[]) (dwN d.1 (qF d.2) a k,dM d.2) ([],[])
def QAv:PSpec:=⟨[gC,gD,gi],fun(c,d,a,_)=>(some (cP c∧dP d),.tup [QiM,I1 (loadI c d a)],[.arr (.int .i64) (loadD c d a).1,.arr (.int .u8) (loadD c d a).2])⟩
theorem QgO{r r':Int}(h:r=r'):AV.tup [QiM,I1 r]=AV.tup [QiM,I1 r']:=by rw[h]
theorem Qki:G0 95 QAv.spec:=by
 have hP:S0 _:=Qa Quh (Qa Qt7 (Qa Qt9 (Qa Qub (Qa QxA (Qa Qud (Qa Qxs (Qb (T:=tree))))))));have hT:=tabs hP Qc;refine QAv.gd hT hP Tryz.func95 fun(c:Cv) (d:Dv) (a:Int) hp=>?_
 obtain⟨cn,ck,cb,cs,cd⟩:=c;obtain⟨N,M⟩:=d;obtain⟨hc,hl,hu⟩:cP (cn,ck,cb,cs,cd)∧dP (N,M):=hp _ rfl;clear hp;rcases kinds ck with rfl|rfl|rfl|rfl|rfl|rfl|rfl|rfl|rfl|hx
 all_goals
  repeat' first|(apply Ea;conv=>whnf)|apply Eb|apply Ec<;>intro _|apply Ed<;>intro _|apply Ee<;>intro _|apply Ef hT hP
  all_goals(try dsimp only[Qf] at *)
 all_goals first
  |exact⟨hc,hl,hu⟩
  |exact hu
  |exact hl
  |exact .k [] [3,4] _ R R
  |(exfalso;omega)
  |(refine .le (Le.nilH 2 (.int .i64) _ _ R R R) (.le (Le.nilH 2 (.int .u8) _ _ R R R) (.mk [] [3,4] _ R R R R R (Qt (l:=[]) (m:=[]) ?_ ?_) (QgO ?_)))<;>first|(unfold loadD;rw[Qaa hx])|(unfold loadI;rw[Qaa hx]))
  |skip
def Qui:PSpec:=⟨[gC,gD,gi,gi],fun(c,d,a,k,_)=>(some (cP c∧dP d),Qdv,[.arr (.int .i64) (Qbb c d a k).1,.arr (.int .u8) (Qbb c d a k).2])⟩
theorem Qh3:G0 96 Qui.spec:=by
 have hP:S0 _:=Qa Qrn (Qa Qri (Qa Qrj (Qa Qrk (Qa Qtm (Qa Qrl (Qa Qtd (Qb (T:=tree))))))));have hT:=tabs hP Qc;refine Qui.gd hT hP Tryz.func96 fun(c:Cv) (d:Dv) (a k:Int) hp=>?_
 obtain⟨cn,ck,cb,cs,cd⟩:=c;obtain⟨N,M⟩:=d;obtain⟨hc,hl,hu⟩:cP (cn,ck,cb,cs,cd)∧dP (N,M):=hp _ rfl;clear hp;rcases kinds ck with rfl|rfl|rfl|rfl|rfl|rfl|rfl|rfl|rfl|hx
 all_goals
  repeat' first|(apply Ea;conv=>whnf)|apply Eb|apply Ec<;>intro _|apply Ed<;>intro _|apply Ee<;>intro _|apply Ef hT hP
  all_goals(try dsimp only[Qf] at *)
 all_goals first
  |exact hc
  |exact hl
  |exact .k [] [3,4] _ R R
  |(exfalso;omega)
  |(refine .le (Le.nilH 2 (.int .i64) _ _ R R R) (.le (Le.nilH 2 (.int .u8) _ _ R R R) (.mk [] [3,4] _ R R R R R (Qt (l:=[]) (m:=[]) ?_ ?_) rfl))<;>(unfold Qbb;rw[Qaa hx]))
  |skip
def QAw:PSpec:=⟨[gC,gD],fun(c,d,_)=>(some (cP c∧dP d),Qdv,[.arr (.int .i64) (Qh c d).1,.arr (.int .u8) (Qh c d).2])⟩
theorem Qpv(c:Cv)(d:Dv):Qc9 c d 1=Qh c d:=by
 obtain⟨cn,ck,cb,cs,cd⟩:=c;obtain⟨N,M⟩:=d;rcases kinds ck with rfl|rfl|rfl|rfl|rfl|rfl|rfl|rfl|rfl|hx
 all_goals first
  |rfl
  |(unfold Qc9 Qh;rw[Qaa hx,Qaa hx])
theorem Qx4:G0 135 QAw.spec:=by
 have hP:S0 _:=Qa Qkf (Qb (T:=tree));have hT:=tabs hP Qc;refine QAw.gd hT hP Tryz.func135 fun(c:Cv) (d:Dv) hp=>?_
 obtain⟨hc,hd⟩:cP c∧dP d:=hp _ rfl;obtain⟨cn,ck,cb,cs,cd⟩:=c;obtain⟨N,M⟩:=d;clear hp
 repeat' first|(apply Ea;conv=>whnf)|apply Eb|apply Ec<;>intro _|apply Ed<;>intro _|apply Ee<;>intro _|apply Ef hT hP
 all_goals(try dsimp only[Qf] at *)
 ·exact⟨hc,hd,by decide⟩
 ·exact .mk [] [3,4] _ R R R R R (Qt (congrArg Prod.fst (Qpv (cn,ck,cb,cs,cd) (N,M))) (congrArg Prod.snd (Qpv (cn,ck,cb,cs,cd) (N,M)))) rfl
end Go.Proofs.YtofgbclopbmlcaaGreat

