/- Part 30 of the proof. Conditions: none. -/
import Derived.Test.YtofgbclopbmlcaaGreatG29
import Derived.Test.YtofgbclopbmlcaaGreatG20
namespace Go.Proofs.YtofgbclopbmlcaaGreat
open Go.Fw
set_option linter.unusedVariables false
set_option linter.unusedSimpArgs false
set_option linter.constructorNameAsVariable false
set_option maxRecDepth 100000
abbrev Qi2:V1:=.agg [.own 0,.own 1]
def QGh:PSpec:=⟨[],fun _=>(none,QdC,[.arr (.int .i64) [0,0,0,0],.arr (.int .u8) []])⟩
theorem Qyg:G0 110 QGh.spec:=QR.nil (.int .u8) QC4 (fun xs b=>⟨b,rfl,rfl⟩)
def QDk:PSpec:=⟨[gD,gi],fun(d,k,_)=>(some (k≤4611686018427387904),QdC,[.arr (.int .i64) (Qa1 k.toNat (Qbk d.1)),.arr (.int .u8) []])⟩
theorem Qup:G0 156 QDk.spec:=QR.nil (.int .u8) Qx4 (fun xs b=>⟨b,rfl,rfl⟩)
def Qyh:PSpec:=⟨[gD,gi,gi],fun(d,a,k,_)=>(none,QdC,[.arr (.int .i64) (twN d.1 a k),.arr (.int .u8) []])⟩
theorem QrG:G0 180 Qyh.spec:=QR.nil (.int .u8) Qt8 (fun xs b=>⟨b,rfl,rfl⟩)
def QDl:PSpec:=⟨[gD,gi],fun(d,a,_)=>(none,.tup [Qi2,I1 (trF d.1 a)],[.arr (.int .i64) (trN d.1 a),.arr (.int .u8) []])⟩
theorem Quq:G0 173 QDl.spec:=QR.nil (.int .u8) Qx7 (fun xs b=>⟨b,rfl,rfl⟩)
def QGi:PSpec:=⟨[],fun _=>(none,QdC,[.arr (.int .i64) [255,0,0],.arr (.int .u8) []])⟩
theorem Qyi:G0 111 QGi.spec:=QR.nil (.int .u8) QC1 (fun xs b=>⟨b,rfl,rfl⟩)
def QKx:PSpec:=⟨[gD,gi],fun(d,k,_)=>(none,QdC,[.arr (.int .i64) (Qx1 d.1 k),.arr (.int .u8) []])⟩
theorem Qur:G0 157 QKx.spec:=QR.nil (.int .u8) QFW (fun xs b=>⟨b,rfl,rfl⟩)
def Qyj:PSpec:=⟨[gD,gi,gi],fun(d,a,k,_)=>(none,QdC,[.arr (.int .i64) (pwN d.1 a k),.arr (.int .u8) []])⟩
theorem QrH:G0 181 Qyj.spec:=QR.nil (.int .u8) Qt1 (fun xs b=>⟨b,rfl,rfl⟩)
def QDm:PSpec:=⟨[gD,gi],fun(d,a,_)=>(none,.tup [Qi2,I1 (QfG d.1 a)],[.arr (.int .i64) (QaC d.1),.arr (.int .u8) []])⟩
theorem Qus:G0 174 QDm.spec:=QR.nil (.int .u8) Qx2 (fun xs b=>⟨b,rfl,rfl⟩)
def QGj:PSpec:=⟨[],fun _=>(none,QdC,[.arr (.int .i64) [0,0,0,0,0,0,0,0],.arr (.int .u8) []])⟩
theorem Qyk:G0 112 QGj.spec:=QR.nil (.int .u8) QCF (fun xs b=>⟨b,rfl,rfl⟩)
def QDn:PSpec:=⟨[gD,gi],fun(d,k,_)=>(some (k≤4611686018427387904),QdC,[.arr (.int .i64) (Qr Qah k.toNat (Qbe d.1)),.arr (.int .u8) []])⟩
theorem Qut:G0 159 QDn.spec:=QR.nil (.int .u8) QxF (fun xs b=>⟨b,rfl,rfl⟩)
def QKy:PSpec:=⟨[gD,gi],fun(d,k,_)=>(none,QdC,[.arr (.int .i64) (QlP d.1 k),.arr (.int .u8) []])⟩
theorem QDo:G0 242 QKy.spec:=QR.nil (.int .u8) QFA (fun xs b=>⟨b,rfl,rfl⟩)
def Qyl:PSpec:=⟨[gD,gi,gi],fun(d,a,k,_)=>(none,QdC,[.arr (.int .i64) (swN d.1 a k),.arr (.int .u8) []])⟩
theorem QrI:G0 182 Qyl.spec:=QR.nil (.int .u8) Qua (fun xs b=>⟨b,rfl,rfl⟩)
def QDp:PSpec:=⟨[gD,gi],fun(d,a,_)=>(none,.tup [Qi2,I1 (srF d.1 a)],[.arr (.int .i64) (srN d.1 a),.arr (.int .u8) []])⟩
theorem Quu:G0 175 QDp.spec:=QR.nil (.int .u8) QxH (fun xs b=>⟨b,rfl,rfl⟩)
def QGk:PSpec:=⟨[],fun _=>(none,QdC,[.arr (.int .i64) (List.replicate 12 0),.arr (.int .u8) []])⟩
theorem Qym:G0 114 QGk.spec:=QR.nil (.int .u8) QDc (fun xs b=>⟨b,rfl,rfl⟩)
def QDq:PSpec:=⟨[gD,gi],fun(d,k,_)=>(some (k≤10000000),QdC,[.arr (.int .i64) (Qr QaP k.toNat (Qao d.1)),.arr (.int .u8) []])⟩
theorem Quv:G0 161 QDq.spec:=QR.nil (.int .u8) Qyc (fun xs b=>⟨b,rfl,rfl⟩)
def Qyn:PSpec:=⟨[gD,gi,gi],fun(d,a,k,_)=>(none,QdC,[.arr (.int .i64) (owF d.1 a k),.arr (.int .u8) []])⟩
theorem QrJ:G0 184 Qyn.spec:=QR.nil (.int .u8) Quk (fun xs b=>⟨b,rfl,rfl⟩)
def QDr:PSpec:=⟨[gD,gi],fun(d,a,_)=>(none,.tup [Qi2,I1 (orF d.1 a)],[.arr (.int .i64) (Qao d.1),.arr (.int .u8) []])⟩
theorem Quw:G0 177 QDr.spec:=QR.nil (.int .u8) Qye (fun xs b=>⟨b,rfl,rfl⟩)
theorem kinds(k:Int):k=0∨k=1∨k=2∨k=3∨k=4∨k=5∨k=6∨k=7∨k=8∨(k<0∨8<k):=by omega
def sel{α:Type}(k:Int)(m t p s v o r x:α):α:=if 0≤k∧k≤2 then m else if k=3 then t else if k=4 then p else if k=5 then s else if k=6 then v else if k=7 then o else if k=8 then r else x
theorem Qai{α:Type}{k:Int}(h:k<0∨8<k)(m t p s v o r x:α):sel k m t p s v o r x=x:=by
 unfold sel;rw[Yb (by omega),Yb (by omega),Yb (by omega),Yb (by omega),Yb (by omega),Yb (by omega),Yb (by omega)]
theorem kx3{k:Int}(h:k<0∨8<k):k<3∨k=4∨8<k:=by omega
theorem k3{k:Int}(h:k<3∨k=4∨8<k):k<3∨k=4∨8<k:=h
def Q9(c:Cv)(d:Dv):Dv:=sel c.2.1 (memN c d.1,QaW c d.2) (Qbk d.1,[]) (QaC d.1,[]) (Qbe d.1,[]) (vN d.1,vM d.2) (Qao d.1,[]) (dN d.1 (qF d.2),dM d.2) ([],[])
def Qg(c:Cv)(d:Dv):Dv:=sel c.2.1 (memN c d.1,QaW c d.2) (QaJ (Qbk d.1),[]) (QaC d.1,[]) (Qah (Qbe d.1),[]) (QaV (vM d.2) (vN d.1),vM d.2) (QaP (Qao d.1),[]) (Qay (dN d.1 (qF d.2),dM d.2)) ([],[])
def Qyo:PSpec:=⟨[gC,gD],fun(c,d,_)=>(some (cP c∧List.length d.2≤140737488355328),QdC,[.arr (.int .i64) (Q9 c d).1,.arr (.int .u8) (Q9 c d).2])⟩
theorem Qcj:G0 58 Qyo.spec:=by
 refine QR.sel Qe4 fun(c,d,_) b=>?_
 obtain⟨i,g,n,cs,j⟩:=c;obtain⟨N,M⟩:=d;obtain⟨u,w⟩:cP (i,g,n,cs,j)∧List.length M≤140737488355328:=b _ rfl;clear b;show∃o1:Args [gC,gD]→Option Prop×AV×List Blk,_;rcases kinds g with rfl|rfl|rfl|rfl|rfl|rfl|rfl|rfl|rfl|A
 ·exact⟨_,Qgs,fun q f=>by cases f;exact⟨u,.inl rfl⟩,.refl⟩
 ·exact⟨_,Qgs,fun q f=>by cases f;exact⟨u,.inr (.inl rfl)⟩,.refl⟩
 ·exact⟨_,Qgs,fun q f=>by cases f;exact⟨u,.inr (.inr rfl)⟩,.refl⟩
 ·exact⟨_,Qdd,fun q f=>by cases f;rfl,.nil (.int .u8) rfl .refl⟩
 ·exact⟨_,Qdc,fun q f=>by cases f;rfl,.nil (.int .u8) rfl .refl⟩
 ·exact⟨_,QbL,fun q f=>by cases f;rfl,.nil (.int .u8) rfl .refl⟩
 ·exact⟨_,Qdf,fun q f=>by cases f;rfl,.refl⟩
 ·exact⟨_,Qde,fun q f=>by cases f;rfl,.nil (.int .u8) rfl .refl⟩
 ·exact⟨_,Qcu,fun q f=>by cases f;exact⟨rfl,w⟩,.refl⟩
 ·refine⟨_,Qrl,fun q f=>by cases f;exact A,?_⟩;have e:Q9 (i,g,n,cs,j) (N,M)=([],[]):=Qai A ..;show Conv (QdC,[Blk.arr (.int .i64) [],.arr (.int .u8) []]) (QdC,[.arr (.int .i64) (Q9 (i,g,n,cs,j) (N,M)).1,.arr (.int .u8) (Q9 (i,g,n,cs,j) (N,M)).2]);rw[e];exact .refl
def Qyp:PSpec:=⟨[gC,gD],fun(c,d,_)=>(some (cP c∧dP d),QdC,[.arr (.int .i64) (Qg c d).1,.arr (.int .u8) (Qg c d).2])⟩
def Qmg:PSpec:=⟨[gC,gD],fun(c,d,_)=>(some (cP c∧dP d∧(c.2.1<3∨c.2.1=4∨8<c.2.1)),QdC,[.arr (.int .i64) (Q9 c d).1,.arr (.int .u8) (Q9 c d).2])⟩
theorem QbM:G0 79 Qmg.spec:=by
 have z:S0 _:=Qa Qcj (Qb (T:=tree));have B:=tabs z Qc;refine Qmg.gd B z Tryz.func79 fun(c:Cv) (d:Dv) b=>?_
 obtain⟨i,g,n,cs,j⟩:=c;obtain⟨N,M⟩:=d;obtain⟨u,⟨w,y⟩,A⟩:cP (i,g,n,cs,j)∧dP (N,M)∧(g<3∨g=4∨8<g):=b _ rfl;clear b
 repeat' first|(apply Ea;conv=>whnf)|apply Eb|apply Ec|apply Ed|apply Ee|(apply Ei;intro _)|apply Ef B z
 all_goals(try dsimp only[Qf] at *)
 all_goals first
  |exact⟨u,w⟩
  |omega
  |exact .k [] [3,4] _ R R
  |skip
theorem QrK:G0 79 Qyp.spec:=by
 refine QR.sel QbM fun(c,d,_) b=>?_
 obtain⟨i,g,n,cs,j⟩:=c;obtain⟨N,M⟩:=d;obtain⟨u,w,y⟩:cP (i,g,n,cs,j)∧dP (N,M):=b _ rfl;clear b;show∃o1:Args [gC,gD]→Option Prop×AV×List Blk,_;rcases kinds g with rfl|rfl|rfl|rfl|rfl|rfl|rfl|rfl|rfl|A
 ·exact⟨_,QbM,fun q f=>by cases f;exact⟨u,⟨w,y⟩,.inl (by decide:(0:Int)<3)⟩,.refl⟩
 ·exact⟨_,QbM,fun q f=>by cases f;exact⟨u,⟨w,y⟩,.inl (by decide:(1:Int)<3)⟩,.refl⟩
 ·exact⟨_,QbM,fun q f=>by cases f;exact⟨u,⟨w,y⟩,.inl (by decide:(2:Int)<3)⟩,.refl⟩
 ·exact⟨_,Qt5,fun q f=>by cases f;rfl,.nil (.int .u8) rfl .refl⟩
 ·exact⟨_,QbM,fun q f=>by cases f;exact⟨u,⟨w,y⟩,.inr (.inl rfl)⟩,.refl⟩
 ·exact⟨_,Qrb,fun q f=>by cases f;rfl,.nil (.int .u8) rfl .refl⟩
 ·exact⟨_,QrF,fun q f=>by cases f;exact⟨rfl,y⟩,.refl⟩
 ·exact⟨_,QrC,fun q f=>by cases f;rfl,.nil (.int .u8) rfl .refl⟩
 ·exact⟨_,QnB,fun q f=>by cases f;exact⟨rfl,w,y⟩,.refl⟩
 ·refine⟨_,QbM,fun q f=>by cases f;exact⟨u,⟨w,y⟩,kx3 A⟩,?_⟩;have e:Q9 (i,g,n,cs,j) (N,M)=Qg (i,g,n,cs,j) (N,M):=by unfold Q9 Qg;rw[Qai A,Qai A]
  show Conv (QdC,[Blk.arr (.int .i64) (Q9 (i,g,n,cs,j) (N,M)).1,.arr (.int .u8) (Q9 (i,g,n,cs,j) (N,M)).2]) _;rw[e];exact .refl
def Qdg(c:Cv)(d:Dv)(k:Int):Dv:=sel c.2.1 (memN c d.1,QaW c d.2) (Qa1 k.toNat (Qbk d.1),[]) (QaC d.1,[]) (Qr Qah k.toNat (Qbe d.1),[]) (Qr (QaV (vM d.2)) k.toNat (vN d.1),vM d.2) (Qr QaP k.toNat (Qao d.1),[]) (QxV k (dN d.1 (qF d.2),dM d.2)) ([],[])
def QBf:PSpec:=⟨[gD],fun(d,_)=>(none,I (d.1.getD 0 0),[])⟩
theorem Qyq:G0 158 QBf.spec:=by
 have z:S0 _:=(Qb (T:=tree))
 have B:=tabs z Qc;refine QBf.gd B z Tryz.func158 fun(d:Dv) _=>?_
 obtain⟨N,M⟩:=d
 repeat' first|(apply Ea;conv=>whnf)|apply Eb|apply Ec|apply Ed|apply Ee|(apply Ei;intro _)|apply Ef B z
 all_goals(try dsimp only[Qf] at *)
 ·rename_i h;obtain rfl:N=[]:=Yr (by omega);exact .k [] [] _ R R
 ·rename_i h;show 0≤(0:Int)∧(0:Int)<(N.length:Int);omega
 ·exact .k [] [] _ R R
def QBg:PSpec:=⟨[gC,gD,gi],fun(c,d,k,_)=>(some (cP c∧dP d∧k≤1000000),QdC,[.arr (.int .i64) (Qdg c d k).1,.arr (.int .u8) (Qdg c d k).2])⟩
theorem Qkv:G0 85 QBg.spec:=by
 have z:S0 _:=Qa Qny (Qa Qup (Qa Qur (Qa Qyq (Qa Qut (Qa QxY (Qa Quv (Qa QxW (Qb (T:=tree)))))))));have B:=tabs z Qc;refine QBg.gd B z Tryz.func85 fun(c:Cv) (d:Dv) (k:Int) b=>?_
 obtain⟨i,g,n,cs,j⟩:=c;obtain⟨N,M⟩:=d;obtain⟨u,⟨w,y⟩,C⟩:cP (i,g,n,cs,j)∧dP (N,M)∧k≤1000000:=b _ rfl;clear b;rcases kinds g with rfl|rfl|rfl|rfl|rfl|rfl|rfl|rfl|rfl|A
 all_goals
  repeat' first|(apply Ea;conv=>whnf)|apply Eb|apply Ec|apply Ed|apply Ee|(apply Ei;intro _)|apply Ef B z
  all_goals(try dsimp only[Qf] at *)
 all_goals first
  |exact u
  |exact Int.le_trans C (by decide)
  |exact⟨y,Int.le_trans C (by decide)⟩
  |exact⟨w,y,C⟩
  |exact .k [] [3,4] _ R R
  |(exfalso;omega)
  |(refine .le (Le.nilH 2 (.int .i64) _ _ R R R) (.le (Le.nilH 2 (.int .u8) _ _ R R R) (.mk [] [3,4] _ R R R R R (Qu (l:=[]) (m:=[]) ?_ ?_) rfl))<;>(unfold Qdg;rw[Qai A]))
  |skip
 all_goals trace_state
theorem Qyr{l M:List Int}(B:u8s l)(D:u8s M):u8s (over l M 0):=by
 rw[QeZ];intro x u;rcases YN.1 u with u|u
 ·exact D x (List.mem_of_mem_drop (Jo u))
 ·exact B x (List.mem_of_mem_drop u)
theorem Qys(n:Nat):u8s (List.replicate n 0):=fun x u=>by
 rw[List.eq_of_mem_replicate u];decide
theorem Qih(c:Cv){M:List Int}(h:u8s M):u8s (QaW c M):=Qyr (Qys _) h
theorem Qkw{M:List Int}(h:u8s M)(n:Nat):0≤M.getD n 0∧M.getD n 0<256:=by
 by_cases hn:n<M.length
 ·rw[Yd,Ye hn];exact h _ (YW hn)
 ·rw[Yd,YK (by omega)];decide
theorem QDs{M:List Int}(h:u8s M)(n:Nat):IntKind.i64.wrap (M.getD n 0)=M.getD n 0:=by
 have:=Qkw h n;exact w64 (by omega) (by omega)
def QE(c:Cv)(d:Dv)(a:Int):Int:=if c.2.1=2 then (if a<1∨a>Qbf c then -1 else d.1.getD 0 0*Qbf c+a-1) else if a<0∨a≥(List.length d.2:Nat) then -1 else a
def Qux(c:Cv)(d:Dv):Prop:=cP c∧(c.2.1=2→0<List.length d.1∧0≤d.1.getD 0 0∧d.1.getD 0 0<Qav c)
theorem Qkx{n b w:Int}(E:0≤n)(B:n<b)(hw:1≤w):0≤n*w∧n*w+w≤b*w:=by
 have D:(n+1)*w≤b*w:=Int.mul_le_mul_of_nonneg_right (by omega) (by omega);have h3:0≤n*w:=Int.mul_nonneg E (by omega);rw[Int.add_mul,Int.one_mul] at D;exact⟨h3,D⟩
def Quy:PSpec:=⟨[gC,gD,gi],fun(c,d,a,_)=>(some (Qux c d),I (QE c d a),[])⟩
theorem Qmh:G0 232 Quy.spec:=by
 have s:S0 _:=Qa Qh6 (Qb (T:=tree));have y:=tabs s Qc;refine Quy.gd y s Tryz.func232 fun(c:Cv) (d:Dv) (a:Int) z=>?_
 obtain⟨i,f,p,cs,j⟩:=c;obtain⟨N,M⟩:=d;obtain⟨A,u⟩:Qux (i,f,p,cs,j) (N,M):=z _ rfl;clear z;have u:f=2→0<N.length∧0≤N.getD 0 0∧N.getD 0 0<Qav (i,f,p,cs,j):=u;obtain⟨w1,w2⟩:=QcV (i,f,p,cs,j);obtain⟨b1,b2,b3⟩:=Qba A.2.2
 repeat' first|(apply Ea;conv=>whnf)|apply Eb|apply Ec|apply Ed|apply Ee|(apply Ei;intro _)|apply Ef y s
 all_goals(try dsimp only[Qf] at *)
 all_goals clear y s
 ·rename_i q t;refine .k [] [] _ rfl (Qd ?_);exact(by unfold QE;rw[Yf q,Yf (.inl t)]:-1=QE (i,f,p,cs,j) (N,M) a)
 ·rename_i q t F;refine .k [] [] _ rfl (Qd ?_);exact(by unfold QE;rw[Yf q,Yf (.inr F)]:-1=QE (i,f,p,cs,j) (N,M) a)
 ·rename_i q t F;have:=u q;show(0:Int)≤0∧(0:Int)<(N.length:Int);omega
 ·rename_i q t F;refine .k [] [] _ rfl (Qd ?_);show IntKind.i64.wrap (IntKind.i64.wrap (IntKind.i64.wrap (N.getD 0 0*Qbf (i,f,p,cs,j))+a)-1)=QE (i,f,p,cs,j) (N,M) a;obtain⟨_,n0,n1⟩:=u q;obtain⟨m1,m2⟩:=Qkx n0 n1 w1;have t:¬a<1:=t;have F:¬a>Qbf (i,f,p,cs,j):=F;have b3:Qav (i,f,p,cs,j)*Qbf (i,f,p,cs,j)≤140737488355328:=b3;unfold QE;rw[Yf (show(i,f,p,cs,j).2.1=2 from q),Yb (by omega),w64 (x:=N.getD 0 0*Qbf (i,f,p,cs,j)) (by omega) (by omega),w64 (x:=N.getD 0 0*Qbf (i,f,p,cs,j)+a) (by omega) (by omega),w64 (by omega) (by omega)]
 ·rename_i q t;refine .k [] [] _ rfl (Qd ?_);exact(by unfold QE;rw[Yb q,Yf (.inl t)]:-1=QE (i,f,p,cs,j) (N,M) a)
 ·rename_i q t F;refine .k [] [] _ rfl (Qd ?_);exact(by unfold QE;rw[Yb q,Yf (.inr F)]:-1=QE (i,f,p,cs,j) (N,M) a)
 ·rename_i q t F;refine .k [] [] _ rfl (Qd ?_);exact(by unfold QE;rw[Yb q,Yb (fun h=>h.elim t F)]:a=QE (i,f,p,cs,j) (N,M) a)
def QcX(c:Cv)(d:Dv):Dv:=(memN c d.1,QaW c d.2)
theorem Qeu{c:Cv}(d:Dv)(h:cP c):Qux c (QcX c d):=by
 refine⟨h,fun G=>?_⟩;obtain⟨b1,b2,b3⟩:=Qba h.2.2;unfold QcX memN;rw[Yf G];exact⟨by show 0<1;omega,Int.emod_nonneg _ (by omega),Int.emod_lt_of_pos _ (by omega)⟩
theorem Qec{c:Cv}(d:Dv)(h:cP c){a:Int}(D:QE c (QcX c d) a≥0):QE c (QcX c d) a<((QaW c d.2).length:Nat):=by
 obtain⟨b1,b2,b3⟩:=Qba h.2.2;obtain⟨w1,w2⟩:=QcV c;obtain⟨_,u⟩:=Qeu d h;unfold QE at D ⊢;by_cases G:c.2.1=2
 ·rw[Yf G] at D ⊢;by_cases K:a<1∨a>Qbf c
  ·rw[Yf K] at D;omega
  ·rw[Yb K];obtain⟨_,n0,n1⟩:=u G;obtain⟨m1,m2⟩:=Qkx n0 n1 w1;rw[Qkr,QbI,Yf G];omega
 ·rw[Yb G] at D ⊢;by_cases K:a<0∨a≥((QcX c d).2.length:Nat)
  ·rw[Yf K] at D;omega
  ·rw[Yb K];show a<((QcX c d).2.length:Nat);omega
def Qb8(c:Cv)(d:Dv)(a:Int):Int:=if QE c (QcX c d) a≥0 then (QaW c d.2).getD (QE c (QcX c d) a).toNat 0 else if c.2.1=2∧a=0 then (memN c d.1).getD 0 0 else 0
def Quz:PSpec:=⟨[gC,gD,gi],fun(c,d,a,_)=>(some (cP c∧dP d),.tup [Qi2,I1 (Qb8 c d a)],[.arr (.int .i64) (memN c d.1),.arr (.int .u8) (QaW c d.2)])⟩
theorem QuA:G0 172 Quz.spec:=by
 have s:S0 _:=Qa Qny (Qa Qmh (Qb (T:=tree)));have y:=tabs s Qc;refine Quz.gd y s Tryz.func172 fun(c:Cv) (d:Dv) (a:Int) z=>?_
 obtain⟨i,f,p,cs,j⟩:=c;obtain⟨N,M⟩:=d;obtain⟨A,J,H⟩:cP (i,f,p,cs,j)∧dP (N,M):=z _ rfl;clear z;have E:=Qeu (N,M) A;have B:=@Qec _ (N,M) A a
 repeat' first|(apply Ea;conv=>whnf)|apply Eb|apply Ec|apply Ed|apply Ee|(apply Ei;intro _)|apply Ef y s
 all_goals(try dsimp only[Qf] at *)
 all_goals clear y s
 ·exact A
 ·exact E
 ·rename_i g;have B:=B g;exact⟨g,B⟩
 ·rename_i g;have B:=B g;have B:QE (i,f,p,cs,j) (memN (i,f,p,cs,j) N,QaW (i,f,p,cs,j) M) a<((QaW (i,f,p,cs,j) M).length:Nat):=B;omega
 ·rename_i g;refine .k [] [3,4] _ rfl (Qd6 ?_);show IntKind.i64.wrap ((QaW (i,f,p,cs,j) M).getD (QE (i,f,p,cs,j) (memN (i,f,p,cs,j) N,QaW (i,f,p,cs,j) M) a).toNat 0)=Qb8 (i,f,p,cs,j) (N,M) a;rw[QDs (Qih _ H),Qb8,Yf (show QE (i,f,p,cs,j) (QcX (i,f,p,cs,j) (N,M)) a≥0 from g)];rfl
 ·rename_i g q t;exact⟨Int.le_refl _,by have:0<(memN (i,f,p,cs,j) N).length:=(E.2 q).1;show(0:Int)<((memN (i,f,p,cs,j) N).length:Nat);omega⟩
 ·rename_i g q t;exact(E.2 q).1
 ·rename_i g q t;refine .k [] [3,4] _ rfl (Qd6 ?_);show(memN (i,f,p,cs,j) N).getD 0 0=Qb8 (i,f,p,cs,j) (N,M) a;rw[Qb8,Yb (show¬QE (i,f,p,cs,j) (QcX (i,f,p,cs,j) (N,M)) a≥0 from g),Yf ⟨q,t⟩]
 ·rename_i g q t;refine .k [] [3,4] _ rfl (Qd6 ?_);show 0=Qb8 (i,f,p,cs,j) (N,M) a;rw[Qb8,Yb (show¬QE (i,f,p,cs,j) (QcX (i,f,p,cs,j) (N,M)) a≥0 from g),Yb (fun h=>t h.2)]
 ·rename_i g q;refine .k [] [3,4] _ rfl (Qd6 ?_);show 0=Qb8 (i,f,p,cs,j) (N,M) a;rw[Qb8,Yb (show¬QE (i,f,p,cs,j) (QcX (i,f,p,cs,j) (N,M)) a≥0 from g),Yb (fun h=>q h.1)]
def Qa2(c:Cv)(d:Dv)(a k:Int):Dv:=if c.2.1=1 then QcX c d else if QE c (QcX c d) a≥0 then (memN c d.1,(QaW c d.2).set (QE c (QcX c d) a).toNat (k%256)) else if c.2.1=2∧a=0 then ((memN c d.1).set 0 (k%256%Qav c),QaW c d.2) else QcX c d
def QpH:PSpec:=⟨[gC,gD,gi,gi],fun(c,d,a,k,_)=>(some (cP c),QdC,[.arr (.int .i64) (Qa2 c d a k).1,.arr (.int .u8) (Qa2 c d a k).2])⟩
theorem QrL:G0 179 QpH.spec:=by
 have s:S0 _:=Qa Qny (Qa Qmh (Qa QU (Qa Qh7 (Qb (T:=tree)))));have y:=tabs s Qc;refine QpH.gd y s Tryz.func179 fun(c:Cv) (d:Dv) (a k:Int) z=>?_
 obtain⟨i,f,p,cs,j⟩:=c;obtain⟨N,M⟩:=d;have A:cP (i,f,p,cs,j):=z _ rfl;clear z;have E:=Qeu (N,M) A;have B:=@Qec _ (N,M) A a;obtain⟨b1,b2,b3⟩:=Qba A.2.2
 repeat' first|(apply Ea;conv=>whnf)|apply Eb|apply Ec|apply Ed|apply Ee|(apply Ei;intro _)|apply Ef y s
 all_goals(try dsimp only[Qf] at *)
 all_goals clear y s
 ·exact A
 ·exact E
 ·rename_i g;refine .mk [] [3,4] _ R R R R R (Qu (l:=memN (i,f,p,cs,j) N) (l':=(Qa2 (i,f,p,cs,j) (N,M) a k).1) (m:=QaW (i,f,p,cs,j) M) (m':=(Qa2 (i,f,p,cs,j) (N,M) a k).2) ?_ ?_) rfl
  all_goals(rw[Qa2,Yf (show(i,f,p,cs,j).2.1=1 from g)];rfl)
 ·exact Ya rfl
 ·rename_i C g;exact⟨g,B g⟩
 ·rename_i C g;have B:=B g;have B:QE (i,f,p,cs,j) (memN (i,f,p,cs,j) N,QaW (i,f,p,cs,j) M) a<((QaW (i,f,p,cs,j) M).length:Nat):=B;omega
 ·rename_i C g;refine .mk [] [3,4] _ R R R R R (Qu (l:=memN (i,f,p,cs,j) N) (l':=(Qa2 (i,f,p,cs,j) (N,M) a k).1) (m:=(QaW (i,f,p,cs,j) M).set (QE (i,f,p,cs,j) (QcX (i,f,p,cs,j) (N,M)) a).toNat (IntKind.u8.wrap (k%256))) (m':=(Qa2 (i,f,p,cs,j) (N,M) a k).2) ?_ ?_) rfl
  all_goals rw[Qa2,Yb (show¬(i,f,p,cs,j).2.1=1 from C),Yf (show QE (i,f,p,cs,j) (QcX (i,f,p,cs,j) (N,M)) a≥0 from g)]
  have e:IntKind.u8.wrap (k%256)=k%256:=by show k%256%256=k%256;omega
  rw[e]
 ·exact Ya rfl
 ·exact A.2.2
 ·show Qav (i,f,p,cs,j)≠0;omega
 ·rename_i C g q t;exact⟨Int.le_refl _,by have:0<(memN (i,f,p,cs,j) N).length:=(E.2 q).1;show(0:Int)<((memN (i,f,p,cs,j) N).length:Nat);omega⟩
 ·rename_i C g q t;exact(E.2 q).1
 ·rename_i C g q t;refine .mk [] [3,4] _ R R R R R (Qu (l:=(memN (i,f,p,cs,j) N).set 0 (Int.tmod (k%256) (Qav (i,f,p,cs,j)))) (l':=(Qa2 (i,f,p,cs,j) (N,M) a k).1) (m:=QaW (i,f,p,cs,j) M) (m':=(Qa2 (i,f,p,cs,j) (N,M) a k).2) ?_ ?_) rfl
  all_goals rw[Qa2,Yb (show¬(i,f,p,cs,j).2.1=1 from C),Yb (show¬QE (i,f,p,cs,j) (QcX (i,f,p,cs,j) (N,M)) a≥0 from g),Yf ⟨q,t⟩]
  rw[Yi (by omega)]
 ·rename_i C g q t;refine .mk [] [3,4] _ R R R R R (Qu (l:=memN (i,f,p,cs,j) N) (l':=(Qa2 (i,f,p,cs,j) (N,M) a k).1) (m:=QaW (i,f,p,cs,j) M) (m':=(Qa2 (i,f,p,cs,j) (N,M) a k).2) ?_ ?_) rfl
  all_goals(rw[Qa2,Yb (show¬(i,f,p,cs,j).2.1=1 from C),Yb (show¬QE (i,f,p,cs,j) (QcX (i,f,p,cs,j) (N,M)) a≥0 from g),Yb (fun h=>t h.2)];rfl)
 ·rename_i C g q;refine .mk [] [3,4] _ R R R R R (Qu (l:=memN (i,f,p,cs,j) N) (l':=(Qa2 (i,f,p,cs,j) (N,M) a k).1) (m:=QaW (i,f,p,cs,j) M) (m':=(Qa2 (i,f,p,cs,j) (N,M) a k).2) ?_ ?_) rfl
  all_goals(rw[Qa2,Yb (show¬(i,f,p,cs,j).2.1=1 from C),Yb (show¬QE (i,f,p,cs,j) (QcX (i,f,p,cs,j) (N,M)) a≥0 from g),Yb (fun h=>q h.1)];rfl)
def loadD(c:Cv)(d:Dv)(a:Int):Dv:=sel c.2.1 (QcX c d) (trN d.1 a,[]) (QaC d.1,[]) (srN d.1 a,[]) (vrN d.1 a,vM d.2) (Qao d.1,[]) (drN d.1 (qF d.2) a,dM d.2) ([],[])
def loadI(c:Cv)(d:Dv)(a:Int):Int:=sel c.2.1 (Qb8 c d a) (trF d.1 a) (QfG d.1 a) (srF d.1 a) (vrF d.1 (vM d.2) a) (orF d.1 a) (drF d.1 (qF d.2) a) 0
def Qbg(c:Cv)(d:Dv)(a k:Int):Dv:=sel c.2.1 (Qa2 c d a k) (twN d.1 a k,[]) (pwN d.1 a k,[]) (swN d.1 a k,[]) ([vP d.1,vH d.1],vwM (vM d.2) a k) (owF d.1 a k,[]) (dwN d.1 (qF d.2) a k,dM d.2) ([],[])
def QBh:PSpec:=⟨[gC,gD,gi],fun(c,d,a,_)=>(some (cP c∧dP d),.tup [Qi2,I1 (loadI c d a)],[.arr (.int .i64) (loadD c d a).1,.arr (.int .u8) (loadD c d a).2])⟩
theorem QgZ{r r':Int}(h:r=r'):AV.tup [Qi2,I1 r]=AV.tup [Qi2,I1 r']:=by rw[h]
theorem Qky:G0 95 QBh.spec:=by
 have s:S0 _:=Qa QuA (Qa Quq (Qa Qus (Qa Quu (Qa QxZ (Qa Quw (Qa QxR (Qb (T:=tree))))))));have y:=tabs s Qc;refine QBh.gd y s Tryz.func95 fun(c:Cv) (d:Dv) (a:Int) z=>?_
 obtain⟨i,f,p,cs,j⟩:=c;obtain⟨N,M⟩:=d;obtain⟨A,J,H⟩:cP (i,f,p,cs,j)∧dP (N,M):=z _ rfl;clear z;rcases kinds f with rfl|rfl|rfl|rfl|rfl|rfl|rfl|rfl|rfl|u
 all_goals
  repeat' first|(apply Ea;conv=>whnf)|apply Eb|apply Ec|apply Ed|apply Ee|(apply Ei;intro _)|apply Ef y s
  all_goals(try dsimp only[Qf] at *)
 all_goals first
  |exact⟨A,J,H⟩
  |exact H
  |exact J
  |exact .k [] [3,4] _ R R
  |(exfalso;omega)
  |(refine .le (Le.nilH 2 (.int .i64) _ _ R R R) (.le (Le.nilH 2 (.int .u8) _ _ R R R) (.mk [] [3,4] _ R R R R R (Qu (l:=[]) (m:=[]) ?_ ?_) (QgZ ?_)))<;>first|(unfold loadD;rw[Qai u])|(unfold loadI;rw[Qai u]))
  |skip
def QuB:PSpec:=⟨[gC,gD,gi,gi],fun(c,d,a,k,_)=>(some (cP c∧dP d),QdC,[.arr (.int .i64) (Qbg c d a k).1,.arr (.int .u8) (Qbg c d a k).2])⟩
theorem Qii:G0 96 QuB.spec:=by
 have s:S0 _:=Qa QrL (Qa QrG (Qa QrH (Qa QrI (Qa QtN (Qa QrJ (Qa QtG (Qb (T:=tree))))))));have y:=tabs s Qc;refine QuB.gd y s Tryz.func96 fun(c:Cv) (d:Dv) (a k:Int) z=>?_
 obtain⟨i,f,p,cs,j⟩:=c;obtain⟨N,M⟩:=d;obtain⟨A,J,H⟩:cP (i,f,p,cs,j)∧dP (N,M):=z _ rfl;clear z;rcases kinds f with rfl|rfl|rfl|rfl|rfl|rfl|rfl|rfl|rfl|u
 all_goals
  repeat' first|(apply Ea;conv=>whnf)|apply Eb|apply Ec|apply Ed|apply Ee|(apply Ei;intro _)|apply Ef y s
  all_goals(try dsimp only[Qf] at *)
 all_goals first
  |exact A
  |exact J
  |exact .k [] [3,4] _ R R
  |(exfalso;omega)
  |(refine .le (Le.nilH 2 (.int .i64) _ _ R R R) (.le (Le.nilH 2 (.int .u8) _ _ R R R) (.mk [] [3,4] _ R R R R R (Qu (l:=[]) (m:=[]) ?_ ?_) rfl))<;>(unfold Qbg;rw[Qai u]))
  |skip
def QBi:PSpec:=⟨[gC,gD],fun(c,d,_)=>(some (cP c∧dP d),QdC,[.arr (.int .i64) (Qg c d).1,.arr (.int .u8) (Qg c d).2])⟩
theorem QpI(c:Cv)(d:Dv):Qdg c d 1=Qg c d:=by
 obtain⟨i,f,p,cs,j⟩:=c;obtain⟨N,M⟩:=d;rcases kinds f with rfl|rfl|rfl|rfl|rfl|rfl|rfl|rfl|rfl|u
 all_goals first
  |rfl
  |(unfold Qdg Qg;rw[Qai u,Qai u])
theorem Qyt:G0 135 QBi.spec:=by
 have s:S0 _:=Qa Qkv (Qb (T:=tree));have y:=tabs s Qc;refine QBi.gd y s Tryz.func135 fun(c:Cv) (d:Dv) z=>?_
 obtain⟨A,hd⟩:cP c∧dP d:=z _ rfl;obtain⟨i,f,p,cs,j⟩:=c;obtain⟨N,M⟩:=d;clear z
 repeat' first|(apply Ea;conv=>whnf)|apply Eb|apply Ec|apply Ed|apply Ee|(apply Ei;intro _)|apply Ef y s
 all_goals(try dsimp only[Qf] at *)
 ·exact⟨A,hd,by decide⟩
 ·exact .mk [] [3,4] _ R R R R R (Qu (Yv Prod.fst (QpI (i,f,p,cs,j) (N,M))) (Yv Prod.snd (QpI (i,f,p,cs,j) (N,M)))) rfl
end Go.Proofs.YtofgbclopbmlcaaGreat

