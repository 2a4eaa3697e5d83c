/- Part 29 of the proof. Conditions: none. -/
import Derived.Test.YtofgbclopbmlcaaGreatG28
namespace Go.Proofs.YtofgbclopbmlcaaGreat
open Go.IntKind (i64)
open Go.Fw
set_option linter.unusedVariables false
set_option linter.unusedSimpArgs false
set_option maxRecDepth 100000
theorem QfK:([2560,2]:List Int).length≤1000∧∀m∈([2560,2]:List Int),0<m∧m≤4611686018427387904:=by decide
def QpD:PSpec:=⟨[gC,gD],fun(c,d,_)=>(some (c.2.1=6),QdC,[.arr (.int .i64) (vN d.1),.arr (.int .u8) (vM d.2)])⟩
theorem Qdf:G0 58 QpD.spec:=by
 have b:S0 _:=Qa QcT (Qb (T:=tree));have f:=tabs b Qc;refine QpD.gd f b Tryz.func58 fun(c:Cv) (d:Dv) n=>?_
 obtain⟨q,p,s,cs,r⟩:=c;obtain rfl:p=6:=n _ rfl;obtain⟨N,M⟩:=d
 repeat' first|(apply Ea;conv=>whnf)|apply Eb|apply Ec|apply Ed|apply Ee|(apply Ei;intro _)|apply Ef f b
 all_goals first
  |exact rfl
  |exact QfK
  |exact Ya rfl
  |skip
 ·rename_i h;have h:(N.length:Int)=0:=h;obtain rfl:N=[]:=Yr (by omega);exact .k [] [6,7] _ R R
 ·rename_i h;have h:¬(N.length:Int)=0:=h;refine .mk [] [5,6] _ R R R R R (QdD (l:=[N.getD 0 0%2560,N.getD 1 0%2]) ?_ rfl) rfl;show _=vN N;rw[vN,vP,Yb (by omega)]
def QpE:PSpec:=⟨[gC,gD,gi],fun(c,d,a,_)=>(some (c.2.1=6∧u8s d.2),.tup [.agg [.own 0,.own 1],I1 (vrF d.1 (vM d.2) a)],[.arr (.int .i64) (vrN d.1 a),.arr (.int .u8) (vM d.2)])⟩
theorem QrD:G0 76 QpE.spec:=by
 have b:S0 _:=Qa Qdf (Qb (T:=tree));have f:=tabs b Qc;refine QpE.gd f b Tryz.func76 fun(c:Cv) (d:Dv) (a:Int) n=>?_
 obtain⟨q,p,s,cs,r⟩:=c;obtain⟨rfl,i⟩:p=6∧u8s d.2:=n _ rfl;obtain⟨N,M⟩:=d;have i:u8s M:=i;have g:=QdB N;have hb:=QcU (Qe5 i) a.toNat;have e1:i64.wrap (Int.tdiv (vP N) 64)=vP N/64:=by rw[Yp g.1,w64 (by omega) (by omega)]
 have e2:Int.tmod (vP N) 64=vP N%64:=Yi g.1;have e3:i64.wrap (bA (vM M) a.toNat)=bA (vM M) a.toNat:=w64 (by omega) (by omega)
 repeat' first|(apply Ea;conv=>whnf)|apply Eb|apply Ec|apply Ed|apply Ee|(apply Ei;intro _)|apply Ef f b
 all_goals first
  |exact rfl
  |exact QfK
  |exact Ya rfl
  |(show 0≤a∧a<(vM M).length
    rw[Qa0];omega)
  |(show a.toNat<(vM M).length
    rw[Qa0];omega)
  |(refine .mk [] [4,5] _ R R R R R (QdD ?_ rfl) (Qh3 ?_)
    ·show _=vrN N a;rw[vrN];split<;>first|rfl|(exfalso;omega)
    ·show _=vrF N (vM M) a;rw[vrF];repeat' split
     all_goals first|rfl|exact e1|exact e2|exact e3|(exfalso;omega))
  |skip
def QpF:PSpec:=⟨[gC,gD,gi,gi],fun(c,d,a,k,_)=>(some (c.2.1=6),QdC,[.arr (.int .i64) [vP d.1,vH d.1],.arr (.int .u8) (vwM (vM d.2) a k)])⟩
theorem QrE:G0 77 QpF.spec:=by
 have b:S0 _:=Qa Qdf (Qa QbC (Qb (T:=tree)));have f:=tabs b Qc;refine QpF.gd f b Tryz.func77 fun(c:Cv) (d:Dv) (a k:Int) n=>?_
 obtain⟨q,p,s,cs,r⟩:=c;obtain rfl:p=6:=n _ rfl;obtain⟨N,M⟩:=d;have e:IntKind.u8.wrap (k%256)=k%256:=QCW (by omega) (by omega)
 repeat' first|(apply Ea;conv=>whnf)|apply Eb|apply Ec|apply Ed|apply Ee|(apply Ei;intro _)|apply Ef f b
 all_goals first
  |exact rfl
  |exact QfK
  |exact Ya rfl
  |(show 0≤a∧a<(vM M).length
    rw[Qa0];omega)
  |(show a.toNat<(vM M).length
    rw[Qa0];omega)
  |(exfalso;omega)
  |(refine .mk [] [3,4] _ R R R R R (QdD rfl (?_:vM M=vwM (vM M) a k)) rfl
    rw[vwM,Yb (fun e=>by omega)])
  |(refine .mk [] [3,4] _ R R R R R (QdD rfl (?_:(vM M).set a.toNat (IntKind.u8.wrap (k%256))=vwM (vM M) a k)) rfl
    rw[vwM,Yf ⟨⟨by omega,by omega⟩,by omega⟩,e])
  |skip
def QpG:PSpec:=⟨[gC,gD],fun(c,d,_)=>(some (c.2.1=6∧u8s d.2),QdC,[.arr (.int .i64) (QaV (vM d.2) (vN d.1)),.arr (.int .u8) (vM d.2)])⟩
theorem QrF:G0 79 QpG.spec:=by
 have b:S0 _:=Qa Qdf (Qa Qpa (Qb (T:=tree)));have f:=tabs b Qc;refine QpG.gd f b Tryz.func79 fun(c:Cv) (d:Dv) n=>?_
 obtain⟨q,p,s,cs,r⟩:=c;obtain⟨rfl,i⟩:p=6∧u8s d.2:=n _ rfl;obtain⟨N,M⟩:=d;have i:u8s M:=i;have g:=QdB N;have j:Int.tmod (i64.wrap (vP N+1)) 2560=(vP N+1)%2560:=by rw[w64 (by omega) (by omega),Yi (by omega)]
 have hpos2:0≤Int.tmod (i64.wrap (vP N+1)) 2560∧Int.tmod (i64.wrap (vP N+1)) 2560<2560:=by rw[j];omega
 repeat' first|(apply Ea;conv=>whnf)|apply Eb|apply Ec|apply Ed|apply Ee|(apply Ei;intro _)|apply Ef f b
 all_goals first
  |exact rfl
  |exact QfK
  |exact Ya rfl
  |exact⟨Qa0 M,Qe5 i,hpos2.1,hpos2.2⟩
  |skip
 ·rename_i h;have h:QgQ (vM M) (Int.tmod (i64.wrap (vP N+1)) 2560)=true:=h;refine .mk [] [3,4] _ R R R R R (QdD (l:=[Int.tmod (i64.wrap (vP N+1)) 2560,1]) ?_ rfl) rfl;show _=QaV (vM M) (vN N);rw[j] at h ⊢;rw[vN,QaV,h];rfl
 ·rename_i h;have h:QgQ (vM M) (Int.tmod (i64.wrap (vP N+1)) 2560)=false:=h;refine .mk [] [3,4] _ R R R R R (QdD (l:=[Int.tmod (i64.wrap (vP N+1)) 2560,vH N]) ?_ rfl) rfl;show _=QaV (vM M) (vN N);rw[j] at h ⊢;rw[vN,QaV,h];rfl
def Qun:PSpec:=⟨[gC,gD],fun(c,d,_)=>(some (c.2.1=6∧u8s d.2),I (Qaj (vM d.2) (vP d.1)),[])⟩
theorem Quo:G0 72 Qun.spec:=by
 have b:S0 _:=Qa Qdf (Qa Qpa (Qb (T:=tree)));have f:=tabs b Qc;refine Qun.gd f b Tryz.func72 fun(c:Cv) (d:Dv) n=>?_
 obtain⟨q,p,s,cs,r⟩:=c;obtain⟨rfl,i⟩:p=6∧u8s d.2:=n _ rfl;obtain⟨N,M⟩:=d;have i:u8s M:=i;have g:=QdB N
 repeat' first|(apply Ea;conv=>whnf)|apply Eb|apply Ec|apply Ed|apply Ee|(apply Ei;intro _)|apply Ef f b
 all_goals first
  |exact rfl
  |exact QfK
  |exact Ya rfl
  |exact⟨Qa0 M,Qe5 i,g.1,g.2⟩
  |exact .k [] [] _ R R
set_option linter.constructorNameAsVariable false
def QtU:PSpec:=⟨[gC,gD],fun(c,d,_)=>(some (c.2.1=8∧List.length d.2≤140737488355328),.agg [.own 0,.own 1],[.arr (.int .i64) (dN d.1 (qF d.2)),.arr (.int .u8) (dM d.2)])⟩
theorem Qcu:G0 58 QtU.spec:=by
 refine QR.sel Qe4 fun(c,d,_) p=>?_
 obtain⟨hk,r⟩:c.2.1=8∧List.length d.2≤140737488355328:=p _ rfl;by_cases h:qF d.2=0
 ·refine⟨_,QhY,fun q y=>?_,?_⟩
  ·cases y;exact⟨hk,r,h⟩
  ·have e:dM d.2=[]:=by unfold dM;rw[h];rfl
   show Conv (AV.agg [.own 0,.imm (.slice none 0 0)],[.arr (.int .i64) (dN d.1 (qF d.2))]) (AV.agg [.own 0,.own 1],[.arr (.int .i64) (dN d.1 (qF d.2)),.arr (.int .u8) (dM d.2)]);rw[e];exact .nil (.int .u8) rfl .refl
 ·exact⟨_,Qe4,fun q y=>by cases y;exact⟨hk,r,Nat.pos_of_ne_zero h⟩,.refl⟩
def Ql5:PSpec:=⟨[gC,gD,gi],fun(c,d,a,_)=>(some (c.2.1=8∧List.length d.2≤140737488355328),.tup [.agg [.own 0,.own 1],I1 (drF d.1 (qF d.2) a)],[.arr (.int .i64) (drN d.1 (qF d.2) a),.arr (.int .u8) (dM d.2)])⟩
theorem Qnz:G0 76 Ql5.spec:=by
 have i:S0 _:=Qa Qcu (Qa Qgq (Qa Qnp (Qb (T:=tree))));have n:=tabs i Qc;refine Ql5.gd n i Tryz.func76 fun(c:Cv) (d:Dv) (a:Int) p=>?_
 obtain⟨A,t,C,cs,B⟩:=c;obtain⟨N,M⟩:=d;obtain⟨rfl,r⟩:t=8∧M.length≤140737488355328:=p _ rfl;obtain⟨r0,r1,r2,r3,r4,r5,r6,r7,r8,r9⟩:=eR N (qF M);have b1:=Qkm (decide (e2 N>0));have b2:=Qkm (decide (e0 N (qF M)=0))
 have w:i64.wrap (i64.wrap (i64.wrap (QdS (decide (e2 N>0))+i64.wrap (2*e7 N))+i64.wrap (4*e8 N))+i64.wrap (8*QdS (decide (e0 N (qF M)=0))))=QdS (decide (e2 N>0))+2*e7 N+4*e8 N+8*QdS (decide (e0 N (qF M)=0)):=by
  rw[w64 (x:=2*e7 N) (by omega) (by omega),w64 (x:=4*e8 N) (by omega) (by omega),w64 (x:=8*QdS (decide (e0 N (qF M)=0))) (by omega) (by omega),w64 (x:=QdS (decide (e2 N>0))+2*e7 N) (by omega) (by omega),
   w64 (x:=QdS (decide (e2 N>0))+2*e7 N+4*e8 N) (by omega) (by omega),w64 (by omega) (by omega)]
 repeat' first|(apply Ea;conv=>whnf)|apply Eb|apply Ec|apply Ed|apply Ee|(apply Ei;intro _)|apply Ef n i
 all_goals first
  |exact⟨rfl,r⟩
  |exact Ya rfl
  |skip
 ·rename_i b g j;have b:a=0:=b;have g:a=1:=g;omega
 ·rename_i b g j;have b:a=0:=b;have g:a=1:=g;omega
 ·rename_i b g;have b:a=0:=b;have g:¬a=1:=g;refine .mk [] [4,5] _ R R R R R (Qu (l:=[e0 N (qF M),e1 N,e2 N,e3 N,e4 N,e5 N,e6 N,e7 N,0,e9 N]) (l':=drN N (qF M) a) ?_ rfl) (Qd6 (Yv (fun z=>Qb0 [z,e6 N,e1 N,e9 N] a) w));rw[drN,Yb (fun z=>g z.1),Yf b]
 ·rename_i b g j;have b:¬a=0:=b;have g:a=1:=g;have j:(e2 N != 4)=true:=j;have j:¬e2 N=4:=by simpa using j
  refine .mk [] [4,5] _ R R R R R (Qu (l:=[e0 N (qF M),e1 N,e2 N,e3 N,e4 N,e5 N,e6 N,0,e8 N,e9 N]) (l':=drN N (qF M) a) ?_ rfl) (Qd6 (Yv (fun z=>Qb0 [z,e6 N,e1 N,e9 N] a) w));rw[drN,Yf ⟨g,j⟩,Yb b]
 ·rename_i b g j;have b:¬a=0:=b;have j:(e2 N != 4)=false:=j;have j:e2 N=4:=by simpa using j
  refine .mk [] [4,5] _ R R R R R (Qu (l:=dN N (qF M)) (l':=drN N (qF M) a) ?_ rfl) (Qd6 (Yv (fun z=>Qb0 [z,e6 N,e1 N,e9 N] a) w));rw[QxP,drN,Yb (fun z=>z.2 j),Yb b]
 ·rename_i b g;have b:¬a=0:=b;have g:¬a=1:=g;refine .mk [] [4,5] _ R R R R R (Qu (l:=dN N (qF M)) (l':=drN N (qF M) a) ?_ rfl) (Qd6 (Yv (fun z=>Qb0 [z,e6 N,e1 N,e9 N] a) w));rw[QxP,drN,Yb (fun z=>g z.1),Yb b]
def Ql6:PSpec:=⟨[gC,gD,gi,gi],fun(c,d,a,k,_)=>(some (c.2.1=8∧List.length d.2≤140737488355328),.agg [.own 0,.own 1],[.arr (.int .i64) (dwN d.1 (qF d.2) a k),.arr (.int .u8) (dM d.2)])⟩
theorem QnA:G0 77 Ql6.spec:=by
 have i:S0 _:=Qa Qcu (Qa QbC (Qa Qrj (Qb (T:=tree))));have n:=tabs i Qc;refine Ql6.gd n i Tryz.func77 fun(c:Cv) (d:Dv) (a k:Int) p=>?_
 obtain⟨A,t,C,cs,B⟩:=c;obtain⟨N,M⟩:=d;obtain⟨rfl,r⟩:t=8∧M.length≤140737488355328:=p _ rfl;obtain⟨r0,r1,r2,r3,r4,r5,r6,r7,r8,r9⟩:=eR N (qF M)
 repeat' first|(apply Ea;conv=>whnf)|apply Eb|apply Ec|apply Ed|apply Ee|(apply Ei;intro _)|apply Ef n i
 all_goals first
  |exact⟨rfl,r⟩
  |exact Ya rfl
  |(refine⟨rfl,r2.1,?_,?_⟩
    ·exact(by omega:0≤k%256)
    ·exact(by omega:k%256<256))
  |exact .k [] [3,4] _ R R
  |skip
def Qpg:PSpec:=⟨[gC,gD,gi],fun(c,d,k,_)=>(some (c.2.1=8∧List.length d.2≤140737488355328),.agg [.own 0,.own 1],[.arr (.int .i64) (dcN d.1 (qF d.2) k),.arr (.int .u8) (dM d.2)])⟩
theorem Qrm:G0 73 Qpg.spec:=by
 have i:S0 _:=Qa Qcu (Qa QbC (Qb (T:=tree)));have n:=tabs i Qc;refine Qpg.gd n i Tryz.func73 fun(c:Cv) (d:Dv) (k:Int) p=>?_
 obtain⟨A,t,C,cs,B⟩:=c;obtain⟨N,M⟩:=d;obtain⟨rfl,r⟩:t=8∧M.length≤140737488355328:=p _ rfl
 have u:i64.wrap (Int.tdiv ((dM M).length:Int) 256)=((qF M:Nat):Int):=by
  have:=Qnq M;rw[QhX,Yp (by omega),w64 (by omega) (by omega)];omega
 repeat' first|(apply Ea;conv=>whnf)|apply Eb|apply Ec|apply Ed|apply Ee|(apply Ei;intro _)|apply Ef n i
 all_goals first
  |exact⟨rfl,r⟩
  |exact Ya rfl
  |skip
 ·rename_i h s f;have h:e2 N=0:=h;have f:k≤i64.wrap (Int.tdiv ((dM M).length:Int) 256):=f;rw[u] at f;refine .mk [] [3,4] _ R R R R R (Qu (l:=[k%256,e1 N,e2 N,e3 N,e4 N,e5 N,e6 N,e7 N,e8 N,e9 N]) (l':=dcN N (qF M) k) ?_ rfl) rfl;rw[dcN,Yf h,Yf ⟨s,f⟩]
 ·rename_i h s f;have h:e2 N=0:=h;have f:¬k≤i64.wrap (Int.tdiv ((dM M).length:Int) 256):=f;rw[u] at f;refine .mk [] [3,4] _ R R R R R (Qu (l:=[0,e1 N,e2 N,e3 N,e4 N,e5 N,e6 N,e7 N,e8 N,e9 N]) (l':=dcN N (qF M) k) ?_ rfl) rfl;rw[dcN,Yf h,Yb (fun z=>f z.2)]
 ·rename_i h s;have h:e2 N=0:=h;refine .mk [] [3,4] _ R R R R R (Qu (l:=[0,e1 N,e2 N,e3 N,e4 N,e5 N,e6 N,e7 N,e8 N,e9 N]) (l':=dcN N (qF M) k) ?_ rfl) rfl;rw[dcN,Yf h,Yb (fun z=>s z.1)]
 ·rename_i h;have h:¬e2 N=0:=h;refine .mk [] [3,4] _ R R R R R (Qu (l:=dN N (qF M)) (l':=dcN N (qF M) k) ?_ rfl) rfl;rw[dcN,Yb h]
def Ql7:PSpec:=⟨[gC,gD],fun(c,d,_)=>(some (c.2.1=8∧List.length d.2≤140737488355328∧u8s d.2),.agg [.own 0,.own 1],[.arr (.int .i64) (Qay (dN d.1 (qF d.2),dM d.2)).1,.arr (.int .u8) (Qay (dN d.1 (qF d.2),dM d.2)).2])⟩
theorem QnB:G0 79 Ql7.spec:=by
 have i:S0 _:=Qa Qcu (Qa QxO (Qb (T:=tree)));have n:=tabs i Qc;refine Ql7.gd n i Tryz.func79 fun(c:Cv) (d:Dv) p=>?_
 obtain⟨A,t,C,cs,B⟩:=c;obtain⟨N,M⟩:=d;obtain⟨rfl,r,hu⟩:t=8∧M.length≤140737488355328∧u8s M:=p _ rfl;have hn:=QFM N hu;clear p
 repeat' first|(apply Ea;conv=>whnf)|apply Eb|apply Ec|apply Ed|apply Ee|(apply Ei;intro _)|apply Ef n i
 all_goals first
  |exact⟨rfl,r⟩
  |exact Ya rfl
  |skip
 ·rename_i h;exact⟨⟨_,hn⟩,h⟩
 ·exact .k [] [3,4] _ R R
 ·rename_i h;exact .mk [] [3,4] _ R R R R R (Qu (Yv Prod.fst (Ql1 (l:=dN N (qF M)) (m:=dM M) rfl h)).symm (Yv Prod.snd (Ql1 (l:=dN N (qF M)) (m:=dM M) rfl h)).symm) rfl
theorem QDG(m:List Int)(a k:Int):(vwM m a k).length=m.length:=by
 unfold vwM;split
 ·simp
 ·rfl
theorem QnZ(m:List Int){p h:Int}(hp:0≤p∧p<2560)(hh:0≤h∧h<2)(n:Nat):vN (Qr (QaV m) n [p,h])=Qr (QaV m) n [p,h]:=by
 rw[QxM m hp];refine QCL (by omega) ?_;split
 ·decide
 ·exact hh
theorem QgB(m N:List Int)(n:Nat):vN (Qr (QaV m) n (vN N))=Qr (QaV m) n (vN N) :=
 QnZ m (QdB N) (by show 0≤N.getD 1 0%2∧N.getD 1 0%2<2;omega) n
end Go.Proofs.YtofgbclopbmlcaaGreat

