/- Part 43 of the proof. Conditions: none. -/
import Derived.Test.YtofgbclopbmlcaaGreatG42
import Derived.Test.YtofgbclopbmlcaaGreatG35
import Derived.Test.YtofgbclopbmlcaaGreatG41
import Derived.Test.YtofgbclopbmlcaaGreatG32
import Derived.Test.YtofgbclopbmlcaaGreatG39
import Derived.Test.YtofgbclopbmlcaaGreatG34
import Derived.Test.YtofgbclopbmlcaaGreatG25
import Derived.Test.YtofgbclopbmlcaaGreatG36
import Derived.Test.YtofgbclopbmlcaaGreatG28
namespace Go.Proofs.YtofgbclopbmlcaaGreat
set_option maxHeartbeats 4000000
open Go.Fw
set_option linter.unusedVariables false
set_option linter.unusedSimpArgs false
set_option linter.constructorNameAsVariable false
set_option maxRecDepth 100000
structure RanP(b:Bd)(m:Mach)(l:List Inp)(n:Int):Prop where
 pl:l.length≤4611686018427387904
 pb:bdP b
 pt:Qbc b.2.1 m.2.1
 pc:b.2.2.1.length≤12
 pz:0≤n
 pn:n≤100000
 po:∀k:Nat,(k:Int)<n→Qw9 (Qbz b l k (m,[])).1.2.2.1
 pm:∃L,MOk L b m
def QMl:PSpec:=⟨[gBd,gM,gIn,gi],fun(b,m,l,n,_)=>(some (RanP b m l n),.tup [.agg (Qsu (Qbz b l n.toNat (m,[])).1),.c (.own 0)],[.arr Qv (Qbz b l n.toNat (m,[])).2])⟩
theorem Qle:G0 27 QMl.spec:=by
 have C:S0 _:=Qa Qsy (Qb (T:=tree));have D:=tabs C Qc;refine QMl.gd D C Tryz.func27 fun(b:Bd) (m:Mach) (l:List Inp) (n:Int) hq=>?_
 have f:RanP b m l n:=hq _ rfl;clear hq;have ht:=f.pt;have J:=f.pb;obtain⟨L,K⟩:=f.pm;have B:=f.pc;have hn:=f.pn;have ho:=f.po;have hl:=f.pl;obtain⟨y,⟨t,w,p,q,u⟩,a,x⟩:=b;obtain⟨tm,⟨r,op,at_,d⟩,ds,bd,F,j⟩:=m;have B:a.length≤12:=B;have h0:=f.pz
 ·obtain⟨N,rfl⟩:=Yz h0;clear f
  repeat' first|(apply Ea;conv=>whnf)|apply Eb|apply Ec|apply Ed|apply Ee|(apply Ei;intro _)|apply Ef D C
  refine QA D C (A:=Mach×List Inp) N (fun i s=>St.mk (E2 ((.cell (.ro Qv l))::E1 ((.cell (.ptr 0 0))::(.cell (.ptr 1 0))::E2 ((.cell (.ptr 2 0))::E1 ((.cell (.own 3))::E1 ((I N)::(I i)::E10 (E3 (E1 []))))))))
   [some (.var [.imm (.string y),.imm (.string t),.ro Qap w,.ro Qp p,.ro Qp q,.ro Qp u,.ro Qe a,.ro Qo x]),some (.var [iv .i64 s.1.1,.run .i64 9 s.1.2.1.1,iv .i64 s.1.2.1.2.1,iv .i64 s.1.2.1.2.2.1,bv s.1.2.1.2.2.2,.ro Qh s.1.2.2.1,iv .i64 s.1.2.2.2.1,iv .i64 s.1.2.2.2.2.1,iv .i64 s.1.2.2.2.2.2]),
    some (.var [.imm (.int .i64 0),.run .i64 9 (List.replicate 9 0),.imm (.int .i64 0),.imm (.int .i64 0),.imm (.bool false),.imm (.slice none 0 0),.imm (.int .i64 0),.imm (.int .i64 0),.imm (.int .i64 0)]),some (.arr Qv s.2)])
   (fun k s=>s=Qbz (y,(t,w,p,q,u),a,x) l k ((tm,(r,op,at_,d),ds,bd,F,j),[])) ((tm,(r,op,at_,d),ds,bd,F,j),[]) (.trans (Le.nil 10 Qv rfl) (Le.k [] [0,1,2,3] ?_)) rfl fun k s hk E=>?_
  ·repeat' constructor
  have e:=Qej (l:=l) K ht k;rw[←E] at e;have G:(k:Int)<(N:Int)→Qw9 s.1.2.2.1:=fun h=>by rw[E];exact ho k h
  have H:nxS (y,(t,w,p,q,u),a,x) l s.1 s.2=Qbz (y,(t,w,p,q,u),a,x) l (k+1) ((tm,(r,op,at_,d),ds,bd,F,j),[]):=by rw[Qa6,←E];rfl
  obtain⟨⟨tm1,⟨r1,op1,at1,nmi1⟩,ds1,bd1,ba1,bdt1⟩,o⟩:=s;have hcl:(Qs (y,(t,w,p,q,u),a,x) (tm1,(r1,op1,at1,nmi1),ds1,bd1,ba1,bdt1) l).2.length≤a.length:=QbG _ _ _ _;have hol:o.length≤k*a.length:=e.2.2
  repeat' first|(apply Ea;conv=>whnf)|apply Eb|apply Ec|apply Ed|apply Ee|(apply Ei;intro _)|apply Ef D C
  all_goals(try dsimp only[Qf] at *)
  all_goals clear D C
  ·have g:(k:Int)<(N:Int):=by assumption
   exact⟨⟨G g,hl,J⟩,e.2.1,L,e.1⟩
  ·have g:(k:Int)<(N:Int):=by assumption
   have h7:k*a.length≤100000*12:=Nat.mul_le_mul (by omega) B;show(o.length+(Qs (y,(t,w,p,q,u),a,x) (tm1,(r1,op1,at1,nmi1),ds1,bd1,ba1,bdt1) l).2.length)*32≤140737488355328;omega
  ·rename_i g;have g:(k:Int)<(N:Int):=g;apply Ex (nxS (y,(t,w,p,q,u),a,x) l (tm1,(r1,op1,at1,nmi1),ds1,bd1,ba1,bdt1) o) [4] [0,1,2,6]
   ·repeat' constructor
   ·omega
   ·exact QJ (by omega)
   exact H
  ·rename_i g;have g:¬(k:Int)<(N:Int):=g;have ek:k=N:=by omega
   subst ek;have e3:((tm1,(r1,op1,at1,nmi1),ds1,bd1,ba1,bdt1),o)=Qbz (y,(t,w,p,q,u),a,x) l k ((tm,(r,op,at_,d),ds,bd,F,j),[]):=E;exact .mk [] [3] _ R R R R R (Yv (fun z:Mach×List Inp=>[some (Blk.arr Qv z.2)]) e3) (Yv (fun z:Mach×List Inp=>AV.tup [.agg (Qsu z.1),.c (.own 0)]) e3)
structure GlX where
 b:BdX
 m:McX
 n:Int
def QK7:List V1→List Blk→Option GlX:=fun a b=>match a,b with
 | [.agg [.imm (.string bn),.imm (.string un),.ro (.pair (.int .i64) (.pair .str (.pair (.int .i64) (.sl (.pair (.int .i64) (.pair (.int .i64) (.pair (.int .i64) (.sl (.pair (.int .i64) (.pair (.int .i64) (.pair (.int .i64) (.int .i64)))))))))))) ui,.ro (.pair (.int .i64) (.pair (.int .i64) (.pair (.int .i64) (.sl (.pair (.int .i64) (.pair (.int .i64) (.pair (.int .i64) (.int .i64)))))))) ur,.ro (.pair (.int .i64) (.pair (.int .i64) (.pair (.int .i64) (.sl (.pair (.int .i64) (.pair (.int .i64) (.pair (.int .i64) (.int .i64)))))))) uq,.ro (.pair (.int .i64) (.pair (.int .i64) (.pair (.int .i64) (.sl (.pair (.int .i64) (.pair (.int .i64) (.pair (.int .i64) (.int .i64)))))))) um,.ro (.pair .str (.pair (.int .i64) (.pair (.int .i64) (.pair (.int .i64) (.sl (.int .u8)))))) bc,.ro (.pair .str .str) bw],.c (.ptr 0 0),.c (.imm (.int .i64 n))],[.var [.imm (.int .i64 tm),.run .i64 9 r,.imm (.int .i64 op),.imm (.int .i64 at_),.imm (.bool d),.own 1,.imm (.int .i64 bd),.imm (.int .i64 ba),.imm (.int .i64 e)],.arr (.pair (.sl (.int .i64)) (.sl (.int .u8))) ds]=>some ⟨⟨bn,un,ui,ur,uq,um,bc,bw⟩,⟨tm,r,op,at_,d,ds,bd,ba,e⟩,n⟩
 |_,_=>none
theorem QEM{a:List V1}{b:List Blk}{x:GlX}(h:QK7 a b=some x):a=[.agg (bdA x.b),.c (.ptr 0 0),I1 x.n]∧b=[.var (mcA x.m),.arr Qh x.m.ds]:=by
 unfold QK7 at h;split at h
 ·injection h with h;subst h;exact⟨rfl,rfl⟩
 ·cases h
theorem QKN(N:List Int):tA (Qbk N)=tA N:=Ys _ _
theorem QLY(N:List Int):tB (Qbk N)=tB N:=Ys _ _
theorem QKO(N:List Int):tC (Qbk N)=tC N:=Ys _ _
theorem QKP(N:List Int):tF (Qbk N)=tF N:=Ys _ _
theorem QKQ(N:List Int):s0 (Qbe N)=s0 N:=Ys _ _
theorem QIM(N:List Int):s1 (Qbe N)=s1 N:=Ys _ _
theorem QIN(N:List Int):s2 (Qbe N)=s2 N:=Ys _ _
theorem QIO(N:List Int):s3 (Qbe N)=s3 N:=Ys _ _
theorem QIP(N:List Int):s4 (Qbe N)=s4 N:=Ys _ _
theorem QIQ(N:List Int):s5 (Qbe N)=s5 N:=Ys _ _
theorem QKR(N:List Int):s6 (Qbe N)=s6 N:=Ys _ _
theorem QKS(N:List Int):s7 (Qbe N)=s7 N:=Ys _ _
theorem QLZ(N:List Int):(QaC N).getD 0 0%256=N.getD 0 0%256:=Ys _ _
theorem QKT(N:List Int):(QaC N).getD 1 0%256=N.getD 1 0%256:=Ys _ _
theorem QKU(N:List Int):(QaC N).getD 2 0%256=N.getD 2 0%256:=Ys _ _
theorem QIR(N:List Int):vH (vN N)=vH N:=Ys _ _
theorem QIS(N:List Int)(q:Nat):e1 (dN N q)=e1 N:=Ys _ _
theorem QKV(N:List Int)(q:Nat):e3 (dN N q)=e3 N:=Ys _ _
theorem QKW(N:List Int)(q:Nat):e4 (dN N q)=e4 N:=Ys _ _
theorem QKX(N:List Int)(q:Nat):e5 (dN N q)=e5 N:=Ys _ _
theorem QIT(N:List Int)(q:Nat):e6 (dN N q)=e6 N:=Ys _ _
theorem QIU(N:List Int)(q:Nat):e7 (dN N q)=e7 N:=Ys _ _
theorem QIV(N:List Int)(q:Nat):e8 (dN N q)=e8 N:=Ys _ _
theorem QIW(N:List Int)(q:Nat):e9 (dN N q)=e9 N:=Ys _ _
theorem QIX(N:List Int)(q:Nat):e2 (dN N q)=e2 N:=by
 show(if (if N.getD 2 0%8>4 then 0 else N.getD 2 0%8)%8>4 then 0 else (if N.getD 2 0%8>4 then 0 else N.getD 2 0%8)%8)=(if N.getD 2 0%8>4 then 0 else N.getD 2 0%8)
 split<;>(try split)<;>omega
theorem QKY(N:List Int)(q:Nat):e0 (dN N q) q=e0 N q:=by
 show(if (if N.getD 0 0%256>q then 0 else N.getD 0 0%256)%256>q then 0 else (if N.getD 0 0%256>q then 0 else N.getD 0 0%256)%256)=(if N.getD 0 0%256>q then 0 else N.getD 0 0%256)
 split<;>(try split)<;>omega
theorem QN2(N:List Int)(q:Nat):dN N q=[e0 N q,e1 N,e2 N,e3 N,e4 N,e5 N,e6 N,e7 N,e8 N,e9 N]:=rfl
theorem QIY(N:List Int)(q:Nat):dN (dN N q) q=dN N q:=by
 rw[QN2 (dN N q),QKY,QIS,QIX,QKV,QKW,QKX,QIT,QIU,QIV,QIW];rfl
theorem QEe(M:List Int):qF (dM M)=qF M:=by
 show(dM M).length/256=_;rw[QhX];omega
theorem QHt(M:List Int):dM (dM M)=dM M:=by
 show(dM M).take (qF (dM M)*256)=_;rw[QEe,Yh (by rw[QhX];exact YE _)]
theorem QL0(N:List Int):(Qao N).getD 0 0%4096=N.getD 0 0%4096:=Ys _ _
theorem QN3(N:List Int):(Qao N).getD 1 0%16=N.getD 1 0%16:=Ys _ _
theorem QN4(N:List Int):(Qao N).getD 2 0%256=N.getD 2 0%256:=Ys _ _
theorem QL1(N:List Int):(Qao N).getD 6 0%4096=N.getD 6 0%4096:=Ys _ _
theorem QN5(N:List Int):(Qao N).getD 7 0%16=N.getD 7 0%16:=Ys _ _
theorem QN6(N:List Int):(Qao N).getD 8 0%256=N.getD 8 0%256:=Ys _ _
theorem QKZ(N:List Int):vN (vN N)=vN N:=by
 show[vP (vN N),vH (vN N)]=_;rw[QgD,QIR];rfl
theorem QEf(c:Cv)(d:Dv):Q9 c (Q9 c d)=Q9 c d:=by
 obtain⟨b,h,f,cs,e⟩:=c;obtain⟨N,M⟩:=d;rcases kinds h with rfl|rfl|rfl|rfl|rfl|rfl|rfl|rfl|rfl|g
 ·exact QY (b,0,f,cs,e) (N,M)
 ·exact QY (b,1,f,cs,e) (N,M)
 ·exact QY (b,2,f,cs,e) (N,M)
 ·show(Qbk (Qbk N),([]:List Int))=(Qbk N,[])
  rw[QfH]
 ·show(QaC (QaC N),([]:List Int))=(QaC N,[])
  rw[Qdo]
 ·show(Qbe (Qbe N),([]:List Int))=(Qbe N,[])
  rw[QhW]
 ·show(vN (vN N),vM (vM M))=(vN N,vM M)
  rw[QKZ,QbY]
 ·show(Qao (Qao N),([]:List Int))=(Qao N,[])
  rw[Qdn]
 ·show(dN (dN N (qF M)) (qF (dM M)),dM (dM M))=(dN N (qF M),dM M)
  rw[QEe,QIY,QHt]
 ·unfold Q9;rw[Qai g,Qai g]
theorem Qn0(c:Cv)(d:Dv):Qg c (Q9 c d)=Qg c d:=by
 obtain⟨b,h,f,cs,e⟩:=c;obtain⟨N,M⟩:=d;rcases kinds h with rfl|rfl|rfl|rfl|rfl|rfl|rfl|rfl|rfl|g
 ·exact QY (b,0,f,cs,e) (N,M)
 ·exact QY (b,1,f,cs,e) (N,M)
 ·exact QY (b,2,f,cs,e) (N,M)
 ·show(QaJ (Qbk (Qbk N)),([]:List Int))=(QaJ (Qbk N),[])
  rw[QfH]
 ·show(QaC (QaC N),([]:List Int))=(QaC N,[])
  rw[Qdo]
 ·show(Qah (Qbe (Qbe N)),([]:List Int))=(Qah (Qbe N),[])
  rw[QhW]
 ·show(QaV (vM (vM M)) (vN (vN N)),vM (vM M))=(QaV (vM M) (vN N),vM M)
  rw[QKZ,QbY]
 ·show(QaP (Qao (Qao N)),([]:List Int))=(QaP (Qao N),[])
  rw[Qdn]
 ·show Qay (dN (dN N (qF M)) (qF (dM M)),dM (dM M))=Qay (dN N (qF M),dM M);rw[QEe,QIY,QHt]
 ·unfold Qg;rw[Qai g,Qai g]
theorem QBL(c:Cv)(d:Dv)(k:Int):Qmn c (Q9 c d) k=Qmn c d k:=by
 obtain⟨b,h,f,cs,e⟩:=c;obtain⟨N,M⟩:=d;rcases kinds h with rfl|rfl|rfl|rfl|rfl|rfl|rfl|rfl|rfl|g
 ·exact QY (b,0,f,cs,e) (N,M)
 ·exact QY (b,1,f,cs,e) (N,M)
 ·exact QY (b,2,f,cs,e) (N,M)
 ·show(Qbk (Qbk N),([]:List Int))=(Qbk N,[])
  rw[QfH]
 ·show(Qx1 (QaC N) k,([]:List Int))=(Qx1 N k,[])
  unfold Qx1;rw[QKT,QKU]
 ·show(QlP (Qbe N) k,([]:List Int))=(QlP N k,[])
  unfold QlP;rw[QKQ,QIM,QIN,QIO,QIP,QIQ,QKR,QKS]
 ·show(vN (vN N),vM (vM M))=(vN N,vM M)
  rw[QKZ,QbY]
 ·show(Qao (Qao N),([]:List Int))=(Qao N,[])
  rw[Qdn]
 ·show(dcN (dN N (qF M)) (qF (dM M)) k,dM (dM M))=(dcN N (qF M) k,dM M)
  rw[QEe,QHt];unfold dcN;rw[QIS,QIX,QKV,QKW,QKX,QIT,QIU,QIV,QIW,QIY]
 ·unfold Qmn;rw[Qai g,Qai g]
theorem Qqs(c:Cv)(d:Dv)(a:Int):loadD c (Q9 c d) a=loadD c d a:=by
 obtain⟨b,h,f,cs,e⟩:=c;obtain⟨N,M⟩:=d;rcases kinds h with rfl|rfl|rfl|rfl|rfl|rfl|rfl|rfl|rfl|g
 ·exact QY (b,0,f,cs,e) (N,M)
 ·exact QY (b,1,f,cs,e) (N,M)
 ·exact QY (b,2,f,cs,e) (N,M)
 ·show(trN (Qbk N) a,([]:List Int))=(trN N a,[])
  unfold trN;rw[QKN,QLY,QKO,QKP]
 ·show(QaC (QaC N),([]:List Int))=(QaC N,[])
  rw[Qdo]
 ·show(srN (Qbe N) a,([]:List Int))=(srN N a,[])
  unfold srN;rw[QKQ,QIM,QIN,QIO,QIP,QIQ,QKR,QKS]
 ·show(vrN (vN N) a,vM (vM M))=(vrN N a,vM M)
  unfold vrN;rw[QgD,QIR,QbY]
 ·show(Qao (Qao N),([]:List Int))=(Qao N,[])
  rw[Qdn]
 ·show(drN (dN N (qF M)) (qF (dM M)) a,dM (dM M))=(drN N (qF M) a,dM M)
  rw[QEe,QHt];unfold drN;rw[QKY,QIS,QIX,QKV,QKW,QKX,QIT,QIU,QIV,QIW]
 ·unfold loadD;rw[Qai g,Qai g]
theorem QkY(c:Cv)(d:Dv)(a:Int):Qb8 c (QcX c d) a=Qb8 c d a:=by
 unfold Qb8;rw[QY];show(if QE c (QcX c d) a≥0 then (QaW c (QaW c d.2)).getD (QE c (QcX c d) a).toNat 0 else if c.2.1=2∧a=0 then (memN c (memN c d.1)).getD 0 0 else 0)=_;rw[Qiz,QiA]
theorem QkZ(c:Cv)(d:Dv)(a k:Int):Qa2 c (QcX c d) a k=Qa2 c d a k:=by
 unfold Qa2;rw[QY];show(if c.2.1=1 then QcX c d else if QE c (QcX c d) a≥0 then (memN c (memN c d.1),(QaW c (QaW c d.2)).set (QE c (QcX c d) a).toNat (k%256)) else if c.2.1=2∧a=0 then ((memN c (memN c d.1)).set 0 (k%256%Qav c),QaW c (QaW c d.2)) else QcX c d)=_;rw[Qiz,QiA]
theorem Qqt(c:Cv)(d:Dv)(a:Int):loadI c (Q9 c d) a=loadI c d a:=by
 obtain⟨b,h,f,cs,e⟩:=c;obtain⟨N,M⟩:=d;rcases kinds h with rfl|rfl|rfl|rfl|rfl|rfl|rfl|rfl|rfl|g
 ·exact QkY (b,0,f,cs,e) (N,M) a
 ·exact QkY (b,1,f,cs,e) (N,M) a
 ·exact QkY (b,2,f,cs,e) (N,M) a
 ·show trF (Qbk N) a=trF N a;unfold trF;rw[QKN,QKO,QKP]
 ·show QfG (QaC N) a=QfG N a;unfold QfG Qro;rw[QLZ,QKT,QKU]
 ·show srF (Qbe N) a=srF N a;unfold srF;rw[QIM,QIN,QIO,QIP,QIQ]
 ·show vrF (vN N) (vM (vM M)) a=vrF N (vM M) a;unfold vrF;rw[QgD,QIR,QbY]
 ·show orF (Qao N) a=orF N a;unfold orF;rw[QL0,QN3,QN4,QL1,QN5,QN6]
 ·show drF (dN N (qF M)) (qF (dM M)) a=drF N (qF M) a;rw[QEe];unfold drF;rw[QKY,QIS,QIX,QIT,QIU,QIV,QIW]
 ·unfold loadI;rw[Qai g,Qai g]
theorem Qqu(c:Cv)(d:Dv)(a k:Int):Qbg c (Q9 c d) a k=Qbg c d a k:=by
 obtain⟨b,h,f,cs,e⟩:=c;obtain⟨N,M⟩:=d;rcases kinds h with rfl|rfl|rfl|rfl|rfl|rfl|rfl|rfl|rfl|g
 ·exact QkZ (b,0,f,cs,e) (N,M) a k
 ·exact QkZ (b,1,f,cs,e) (N,M) a k
 ·exact QkZ (b,2,f,cs,e) (N,M) a k
 ·show(twN (Qbk N) a k,([]:List Int))=(twN N a k,[])
  unfold twN;rw[QKN,QLY,QKO,QKP]
 ·show(pwN (QaC N) a k,([]:List Int))=(pwN N a k,[])
  unfold pwN;rw[QLZ,QKT,QKU]
 ·show(swN (Qbe N) a k,([]:List Int))=(swN N a k,[])
  unfold swN;rw[QKQ,QIM,QIN,QIO,QIP,QIQ,QKR,QKS]
 ·show([vP (vN N),vH (vN N)],vwM (vM (vM M)) a k)=([vP N,vH N],vwM (vM M) a k)
  rw[QgD,QIR,QbY]
 ·show(owF (Qao N) a k,([]:List Int))=(owF N a k,[])
  unfold owF;rw[Qdn,QL0,QL1]
 ·show(dwN (dN N (qF M)) (qF (dM M)) a k,dM (dM M))=(dwN N (qF M) a k,dM M)
  rw[QEe,QHt];unfold dwN;rw[QIY]
 ·unfold Qbg;rw[Qai g,Qai g]
inductive L3(R:Cv→Dv→Dv→Prop):List Cv→List Dv→List Dv→Prop
 |nil:L3 R [] [] []
 |cons {c:Cv} {d e:Dv} {cs:List Cv} {ds es:List Dv} (h:R c d e) (r:L3 R cs ds es):L3 R (c::cs) (d::ds) (e::es)
theorem L3.len{R:Cv→Dv→Dv→Prop}{cs:List Cv}{ds es:List Dv}(h:L3 R cs ds es):cs.length=ds.length∧cs.length=es.length:=by
 induction h with
 |nil=>exact⟨rfl,rfl⟩
 |cons h r ih=>exact⟨by rw[Yx,Yx,ih.1],by rw[Yx,Yx,ih.2]⟩
theorem L3.get{R:Cv→Dv→Dv→Prop}{cs:List Cv}{ds es:List Dv}(h:L3 R cs ds es):∀{i:Nat},i<cs.length→R (cs.getD i (dflt Qe)) (ds.getD i (dflt Qh)) (es.getD i (dflt Qh)):=by
 induction h with
 |nil=>intro i L;cases L
 |cons h r ih =>
  intro i L;cases i with
  |zero=>exact h
  |succ i=>exact ih (i:=i) (by rw[Yx] at L;omega)
theorem L3.zip{β:Type}{R:Cv→Dv→Dv→Prop}{cs:List Cv}{ds es:List Dv}(h:L3 R cs ds es){f g:Cv→Dv→β}(E:∀c d e,R c d e→f c d=g c e):List.zipWith f cs ds=List.zipWith g cs es:=by
 induction h with
 |nil=>rfl
 |cons h r ih=>rw[List.zipWith_cons_cons,List.zipWith_cons_cons,E _ _ _ h,ih]
theorem L3.mono{R Q:Cv→Dv→Dv→Prop}{cs:List Cv}{ds es:List Dv}(h:L3 R cs ds es)(D:∀c d e,R c d e→Q c d e):L3 Q cs ds es:=by
 induction h with
 |nil=>exact .nil
 |cons h r ih=>exact .cons (D _ _ _ h) ih
theorem L3.map{R Q:Cv→Dv→Dv→Prop}{cs:List Cv}{ds es:List Dv}(h:L3 R cs ds es){f g:Cv→Dv→Dv}(D:∀c d e,R c d e→Q c (f c d) (g c e)):L3 Q cs (List.zipWith f cs ds) (List.zipWith g cs es):=by
 induction h with
 |nil=>exact .nil
 |cons h r ih=>exact .cons (D _ _ _ h) ih
theorem L3.map1{R Q:Cv→Dv→Dv→Prop}{cs:List Cv}{ds es:List Dv}(h:L3 R cs ds es){f:Cv→Dv→Dv}(D:∀c d e,R c d e→Q c (f c d) e):L3 Q cs (List.zipWith f cs ds) es:=by
 induction h with
 |nil=>exact .nil
 |cons h r ih=>exact .cons (D _ _ _ h) ih
theorem L3.set{R Q:Cv→Dv→Dv→Prop}{cs:List Cv}{ds es:List Dv}(h:L3 R cs ds es)(D:∀c d e,R c d e→Q c d e){x y:Dv}:∀{i:Nat},(i<cs.length→Q (cs.getD i (dflt Qe)) x y)→L3 Q cs (ds.set i x) (es.set i y):=by
 induction h with
 |nil=>intro i _;exact .nil
 |cons h r ih =>
  intro i L;cases i with
  |zero=>exact .cons (L (by simp)) (r.mono D)
  |succ i=>exact .cons (D _ _ _ h) (ih fun J=>L (by rw[Yx];omega))
theorem L3.refl{R:Cv→Dv→Dv→Prop}{cs:List Cv}{ds:List Dv}(h:cs.length=ds.length)(V:∀i,i<cs.length→R (cs.getD i (dflt Qe)) (ds.getD i (dflt Qh)) (ds.getD i (dflt Qh))):L3 R cs ds ds:=by
 induction cs generalizing ds with
 |nil =>
  cases ds with
  |nil=>exact .nil
  |cons d ds=>simp at h
 |cons c cs ih =>
  cases ds with
  |nil=>simp at h
  |cons d ds =>
   exact .cons (V 0 (by simp)) (ih (by simpa using h) fun i L=>V (i+1) (by rw[Yx];omega))
theorem Qoa{β:Type}{f:Cv→Dv→β}{x:Dv}:∀{cs:List Cv} {ds:List Dv} {i:Nat},(i<cs.length→i<ds.length→f (cs.getD i (dflt Qe)) x=f (cs.getD i (dflt Qe)) (ds.getD i (dflt Qh)))→List.zipWith f cs (ds.set i x)=List.zipWith f cs ds
 | [],ds,i,_=>by simp
 |c::cs,[],i,_=>by simp
 |c::cs,d::ds,0,h=>by
  have:=h (by simp) (by simp);show f c x::List.zipWith f cs ds=f c d::List.zipWith f cs ds;rw[show f c x=f c d from this]
 |c::cs,d::ds,i+1,h=>by
  show f c d::List.zipWith f cs (ds.set i x)=f c d::List.zipWith f cs ds;rw[Qoa (cs:=cs) (ds:=ds) (i:=i) (x:=x) fun q F=>h (by rw[Yx];omega) (by rw[Yx];omega)]
theorem QeD:∀{H:List Bool} {cs:List Cv} {ds es:List Dv},List.zipWith QaE cs ds=List.zipWith QaE cs es→ds.length=es.length→Qby H cs ds=Qby H cs es
 | [],cs,ds,es,_,_=>by simp[Qby]
 |h::H,[],ds,es,_,_=>by simp[Qby]
 |h::H,c::cs,[],[],_,_=>by simp[Qby]
 |h::H,c::cs,[],e::es,_,J=>by simp at J
 |h::H,c::cs,d::ds,[],_,J=>by simp at J
 |h::H,c::cs,d::ds,e::es,hz,J=>by
  rw[List.zipWith_cons_cons,List.zipWith_cons_cons] at hz;injection hz with q F
  show((h&&QaE c d)||Qby H cs ds)=((h&&QaE c e)||Qby H cs es)
  rw[q,QeD F (by simpa using J)]
theorem QmU(t:Int):∀(cs:List Cv) (ds:List Dv),Qfh t cs ds (List.zipWith Qat cs ds)=[]
 | [],ds=>by simp[Qfh]
 |c::cs,[]=>by simp[Qfh]
 |c::cs,d::ds=>by
  show(if Qat c d=Qat c d then Qfh t cs ds (List.zipWith Qat cs ds) else _)=[]
  rw[Yf rfl,QmU t cs ds]
def FE(c:Cv)(d e:Dv):Prop:=Q9 c d=Q9 c e
theorem FE.tick{c:Cv}{d e:Dv}(h:FE c d e):Qg c d=Qg c e:=by rw[←Qn0 c d,h,Qn0]
theorem FE.giv{c:Cv}{d e:Dv}(h:FE c d e)(k:Int):Qmn c d k=Qmn c e k:=by rw[←QBL c d,h,QBL]
theorem FE.loadD{c:Cv}{d e:Dv}(h:FE c d e)(k:Int):loadD c d k=loadD c e k:=by rw[←Qqs c d,h,Qqs]
theorem FE.loadI{c:Cv}{d e:Dv}(h:FE c d e)(k:Int):loadI c d k=loadI c e k:=by rw[←Qqt c d,h,Qqt]
theorem FE.store{c:Cv}{d e:Dv}(h:FE c d e)(a k:Int):Qbg c d a k=Qbg c e a k:=by rw[←Qqu c d,h,Qqu]
theorem FE.shw{c:Cv}{d e:Dv}(h:FE c d e):Qat c d=Qat c e:=by rw[←(Qcz c d).1,h,(Qcz c e).1]
theorem FE.kask{c:Cv}{d e:Dv}(h:FE c d e):QaE c d=QaE c e:=by rw[←(Qcz c d).2.1,h,(Qcz c e).2.1]
theorem QAf{cs:List Cv}{t:Int}{x:Inp}{s u:List Dv×Bool}(h:L3 FE cs s.1 u.1)(S:s.2=u.2):L3 FE cs (QdH cs t s x).1 (QdH cs t u x).1∧(QdH cs t s x).2=(QdH cs t u x).2:=by
 unfold QdH;split
 ·exact⟨h,S⟩
 ·split
  ·exact⟨h,rfl⟩
  ·refine⟨h.map fun c d e V=>?_,S⟩;unfold Qfa;split
   ·show Q9 c _=Q9 c _;rw[V.giv]
   ·exact V
theorem QqG{cs:List Cv}{t:Int}:∀(l:List Inp) {s u:List Dv×Bool},L3 FE cs s.1 u.1→s.2=u.2→L3 FE cs (QM cs t l s).1 (QM cs t l u).1∧(QM cs t l s).2=(QM cs t l u).2
 | [],s,u,h,S=>⟨h,S⟩
 |x::l,s,u,h,S=>by
  have q:=QAf (t:=t) (x:=x) h S;exact QqG l q.1 q.2
theorem QEH{b:Bd}{ds es:List Dv}{x:Bsv}(h:L3 FE b.2.2.1 ds es):Qb4 b ds x=Qb4 b es x:=by
 unfold Qb4;split
 ·split
  ·rename_i E;have:=(Qc1 E).1;exact(h.get (i:=(Qn b x.2.1).toNat) (by omega)).loadI _
  ·rfl
 ·rfl
theorem QEI{b:Bd}{ds es:List Dv}{x:Bsv}(h:L3 FE b.2.2.1 ds es):L3 FE b.2.2.1 (QaX b ds x) (QaX b es x):=by
 unfold QaX;split
 ·rename_i E;have L:=(Qc1 E).1;have O:=h.get (i:=(Qn b x.2.1).toNat) (by omega);split
  ·exact h.set (fun _ _ _ r=>r) fun _=>by
    show Q9 _ _=Q9 _ _;rw[O.loadD]
  ·split
   ·exact h.set (fun _ _ _ r=>r) fun _=>by
     show Q9 _ _=Q9 _ _;rw[O.store]
   ·exact h
 ·exact h
theorem QAg{b:Bd}{t:Int}{k:Kor}{ds es:List Dv}{y z:Bsv}(l:List Inp)(h:L3 FE b.2.2.1 ds es):Qs b (t,k,ds,y) l=Qs b (t,k,es,z) l:=by
 have q:=QqG (t:=t) l (s:=(ds,k.2.2.2)) (u:=(es,k.2.2.2)) h rfl;have w:List.zipWith Qat b.2.2.1 ds=List.zipWith Qat b.2.2.1 es:=h.zip fun c d e r=>r.shw
 unfold Qs;dsimp only;rw[w];generalize QM b.2.2.1 t l (ds,k.2.2.2)=g at *;generalize QM b.2.2.1 t l (es,k.2.2.2)=g' at *;obtain⟨g,n⟩:=g;obtain⟨g',n'⟩:=g';obtain⟨q,F⟩:=q;have q:L3 FE b.2.2.1 g g':=q;have F:n=n':=F;subst F;have h3:QC b g=QC b g':=QeD (q.zip fun c d e r=>r.kask) (by rw[←q.len.1,q.len.2]);dsimp only;rw[h3];generalize Qk b.2.1 (k.1,k.2.1,k.2.2.1,n) (QC b g')=a;rw[QEH q,(QEI (x:=a.2) q).zip fun c d e r=>r.tick]
theorem Qfc{α:Type}{k:Int}(h:k≤2)(m t p s v o r x:α):sel k m t p s v o r x=if 0≤k then m else x:=by
 unfold sel;by_cases w:0≤k
 ·rw[Yf ⟨w,h⟩,Yf w]
 ·rw[Yb (by omega),Yb (by omega),Yb (by omega),Yb (by omega),Yb (by omega),Yb (by omega),Yb (by omega),Yb w]
theorem QEJ{c:Cv}(h:c.2.1≤2)(d:Dv)(j:Nat):itF c d j=Q9 c d:=by
 unfold itF Q9;rw[Qfc h,Qfc h];rfl
theorem Qwz{c:Cv}(h:c.2.1≤2)(d:Dv):Qg c d=Q9 c d:=by
 unfold Qg Q9;rw[Qfc h,Qfc h]
theorem QB0{c:Cv}(h:c.2.1≤2)(d:Dv):Qat c d=0:=by
 unfold Qat;rw[Qfc h,ite_self]
theorem QwA{c:Cv}(h:c.2.1≤2)(d:Dv):QaE c d=false:=by
 unfold QaE;rw[Qfc h,ite_self]
theorem QB1{c:Cv}(h:c.2.1≤2)(d:Dv):QcD c d=100000:=by
 unfold QcD;rw[Qfc h,ite_self]
theorem QK6(c:Cv){d:Dv}(P:u8s d.2)(j:Nat):Q9 c (itF c d j)=itF c d j:=by
 obtain⟨cn,ck,cb,cs,cd⟩:=c;obtain⟨N,M⟩:=d;rcases kinds ck with rfl|rfl|rfl|rfl|rfl|rfl|rfl|rfl|rfl|Y
 ·exact QY (cn,0,cb,cs,cd) (N,M)
 ·exact QY (cn,1,cb,cs,cd) (N,M)
 ·exact QY (cn,2,cb,cs,cd) (N,M)
 ·show(Qbk (Qa1 j (Qbk N)),([]:List Int))=(Qa1 j (Qbk N),[])
  rw[QfI]
 ·show(QaC (QaC N),([]:List Int))=(QaC N,[])
  rw[Qdo]
 ·show(Qbe (Qr Qah j (Qbe N)),([]:List Int))=(Qr Qah j (Qbe N),[])
  rw[Qer]
 ·show(vN (Qr (QaV (vM M)) j (vN N)),vM (vM M))=(Qr (QaV (vM M)) j (vN N),vM M)
  rw[QgB,QbY]
 ·show(Qao (Qr QaP j (Qao N)),([]:List Int))=(Qr QaP j (Qao N),[])
  rw[QgC]
 ·exact QvO (Qg7 (QFM N P) j)
 ·unfold itF Q9;rw[Qai Y,Qai Y]
structure PJ(K j:Nat)(c:Cv)(x g:Dv):Prop where
 f:Q9 c x=itF c g j
 u:u8s g.2
 r:(K:Int)≤QcD c g
theorem PJ.shw{K j:Nat}{c:Cv}{x g:Dv}(h:PJ K j c x g)(hj:j≤K):Qat c x=Qat c g:=by
 have q:=(QiD c g h.u j (by have:=h.r;omega)).1;rw[←(Qcz c x).1,h.f,q]
theorem PJ.kask{K j:Nat}{c:Cv}{x g:Dv}(h:PJ K j c x g)(hj:j≤K):QaE c x=QaE c g:=by
 have q:=(QiD c g h.u j (by have:=h.r;omega)).2.1;rw[←(Qcz c x).2.1,h.f,q]
theorem PJ.fe{K j:Nat}{c:Cv}{x g:Dv}(h:PJ K j c x g)(T:c.2.1≤2):FE c x g:=by
 show Q9 c x=Q9 c g;rw[h.f,QEJ T]
def QdR(b:Bd)(x:Bsv):Bool:=decide (x.1=0)||(!QrW b x.2.1||decide ((b.2.2.1.getD (fI b x.2.1).toNat (dflt Qe)).2.1≤2))
theorem Qob{b:Bd}{x:Bsv}(h:QdR b x=true)(E:0≤Qn b x.2.1):x.1=0∨(b.2.2.1.getD (Qn b x.2.1).toNat (dflt Qe)).2.1≤2:=by
 have e:=(Qc1 E).2;unfold QdR QrW at h;rw[e] at h;simp only[Bool.or_eq_true,YB,Bool.not_eq_true',decide_eq_false_iff_not] at h;rcases h with h|h|h
 ·exact .inl h
 ·exact YD E h
 ·exact .inr h
theorem QwB{β:Type}{b:Bd}{x:Bsv}{ds:List Dv}(C:QdR b x=true){f:Cv→Dv→β}(E:∀c d e,c.2.1≤2→f c d=f c e):List.zipWith f b.2.2.1 (QaX b ds x)=List.zipWith f b.2.2.1 ds:=by
 unfold QaX;split
 ·rename_i A;rcases Qob C A with w|w
  ·rw[Yb (by omega),Yb (by omega)]
  ·split
   ·exact Qoa fun _ _=>E _ _ _ w
   ·split
    ·exact Qoa fun _ _=>E _ _ _ w
    ·rfl
 ·rfl
theorem QEK{K j:Nat}{b:Bd}{x:Bsv}{X G:List Dv}(C:QdR b x=true)(h:L3 (PJ K j) b.2.2.1 X G):Qb4 b X x=Qb4 b G x:=by
 unfold Qb4;split
 ·rename_i q;split
  ·rename_i A;rcases Qob C A with w|w
   ·omega
   ·have:=(Qc1 A).1;exact((h.get (i:=(Qn b x.2.1).toNat) (by omega)).fe w).loadI _
  ·rfl
 ·rfl
theorem PJ.next{K j:Nat}{c:Cv}{x g:Dv}(h:PJ K j c x g):Qg c x=itF c g (j+1)∧u8s g.2∧(K:Int)≤QcD c g:=by
 refine⟨?_,h.u,h.r⟩;rw[←Qn0,h.f,Qqq c h.u]
theorem QEL{K j:Nat}{b:Bd}{x:Bsv}{X G:List Dv}(Z:K≤100000)(C:QdR b x=true)(T:∀c∈b.2.2.1,cP c)(h:L3 (PJ K j) b.2.2.1 X G) :
 List.zipWith Qg b.2.2.1 (QaX b X x)=List.zipWith (fun c d=>itF c d (j+1)) b.2.2.1 (QaX b G x)∧L3 (PJ K (j+1)) b.2.2.1 (List.zipWith Qg b.2.2.1 (QaX b X x)) (QaX b G x):=by
 have D:L3 (fun c x g=>Qg c x=itF c g (j+1)∧u8s g.2∧(K:Int)≤QcD c g) b.2.2.1 (QaX b X x) (QaX b G x):=by
  unfold QaX;split
  ·rename_i A;rcases Qob C A with w|w
   ·rw[Yb (by omega),Yb (by omega),Yb (by omega),Yb (by omega)];exact h.mono fun c d e r=>r.next
   ·have L:=(Qc1 A).1;have O:=h.get (i:=(Qn b x.2.1).toNat) (by omega);have W:=T _ (QK (dflt Qe) (show(Qn b x.2.1).toNat<b.2.2.1.length by omega));have fe:=O.fe w;split
    ·refine h.set (fun c d e r=>r.next) fun _=>?_
     rw[fe.loadD];refine⟨by rw[Qwz w,QEJ w],(Qms W ⟨O.u,YE _⟩ _).u,by rw[QB1 w];omega⟩
    ·split
     ·refine h.set (fun c d e r=>r.next) fun _=>?_
      rw[fe.store];refine⟨by rw[Qwz w,QEJ w],(Qjy W ⟨O.u,YE _⟩ _ _).u,by rw[QB1 w];omega⟩
     ·exact h.mono fun c d e r=>r.next
  ·exact h.mono fun c d e r=>r.next
 refine⟨D.zip fun c d e r=>r.1,D.map1 fun c d e r=>⟨?_,r.2.1,r.2.2⟩⟩;rw[r.1];exact QK6 c r.2.1 (j+1)
def Qcd(b:Bd)(line:Bool)(m:Mach):Mach :=
 (m.1,QL b.2.1 (Qk b.2.1 m.2.1 line).1 (Qb4 b m.2.2.1 (Qk b.2.1 m.2.1 line).2),QaX b m.2.2.1 (Qk b.2.1 m.2.1 line).2,(Qk b.2.1 m.2.1 line).2.1,(Qk b.2.1 m.2.1 line).2.2.1,Qb4 b m.2.2.1 (Qk b.2.1 m.2.1 line).2)
def QsE(b:Bd)(line:Bool)(m:Mach):Bool:=QdR b (Qk b.2.1 m.2.1 line).2
def glK(b:Bd)(line:Bool):Nat→Mach→Mach
 |0,m=>m
 |k+1,m=>Qcd b line (glK b line k m)
def glC(b:Bd)(line:Bool):Nat→Mach→Nat
 |0,m=>0
 |n+1,m=>if QsE b line m=true then glC b line n (Qcd b line m)+1 else 0
theorem Qf5(b:Bd)(line:Bool):∀(k:Nat) (m:Mach),glK b line k (Qcd b line m)=glK b line (k+1) m
 |0,m=>rfl
 |k+1,m=>by
  show Qcd b line (glK b line k (Qcd b line m))=_;rw[Qf5 b line k m];rfl
theorem QB2(b:Bd)(line:Bool):∀(n:Nat) (m:Mach),glC b line n m≤n
 |0,m=>YE _
 |n+1,m=>by
  unfold glC;split
  ·have:=QB2 b line n (Qcd b line m);omega
  ·omega
theorem QB3(b:Bd)(line:Bool):∀(n:Nat) (m:Mach) (j:Nat),j<glC b line n m→QsE b line (glK b line j m)=true
 |0,m,j,h=>by cases h
 |n+1,m,j,h=>by
  unfold glC at h;split at h
  ·rename_i C;cases j with
   |zero=>exact C
   |succ j =>
    have:=QB3 b line n (Qcd b line m) j (by omega);rw[Qf5] at this;exact this
  ·cases h
theorem QwC{b:Bd}{line:Bool}:∀{n:Nat} {m:Mach} {k:Nat},k≤n→(∀j<k,QsE b line (glK b line j m)=true)→glC b line n m=k+glC b line (n-k) (glK b line k m)
 |n,m,0,_,_=>by rw[Jh];rfl
 |0,m,k+1,h,_=>by omega
 |n+1,m,k+1,h,C=>by
  have q:=QwC (b:=b) (line:=line) (n:=n) (m:=Qcd b line m) (k:=k) (by omega) fun j hj=>by
   have:=C (j+1) (by omega);rw[Qf5];exact this
  show(if QsE b line m=true then glC b line n (Qcd b line m)+1 else 0)=_;rw[Yf (show QsE b line m=true from C 0 (by omega)),q,Qf5,show n+1-(k+1)=n-k by omega];omega
theorem QmV{t:Int}(h:0≤t∧t≤1099511627776):Qcg t=min (t+1) 1099511627776:=by
 unfold Qcg;omega
theorem QjK{cs:List Cv}{t:Int}:∀{l:List Inp} {s:List Dv×Bool},(∀x∈l,x.1≠t)→QM cs t l s=s
 | [],s,_=>rfl
 |x::l,s,h=>by
  have e:QdH cs t s x=s:=Yf (h x (YZ ..));show QM cs t l (QdH cs t s x)=s;rw[e];exact QjK fun y hy=>h y (YP _ hy)
theorem Qhq:∀(cs:List Cv) (ds:List Dv) (n:Int),QeL cs ds n≤n
 | [],ds,n=>Int.le_refl _
 |c::cs,[],n=>Int.le_refl _
 |c::cs,d::ds,n=>by
  have:=Qhq cs ds (imin n (QcD c d));show QeL cs ds (imin n (QcD c d))≤n;rw[QS] at *;omega
theorem QwD{K:Nat}:∀{cs:List Cv} {ds:List Dv} {n:Int},cs.length=ds.length→(K:Int)≤QeL cs ds n→(∀d∈ds,u8s d.2)→L3 (PJ K 0) cs ds ds
 | [],[],n,_,_,_=>.nil
 | [],d::ds,n,h,_,_=>by simp at h
 |c::cs,[],n,h,_,_=>by simp at h
 |c::cs,d::ds,n,h,F,P=>by
  have F:(K:Int)≤QeL cs ds (imin n (QcD c d)):=F;have h3:=Qhq cs ds (imin n (QcD c d));have h4:imin n (QcD c d)≤QcD c d:=by rw[QS];omega
  exact .cons ⟨(Qhm c d).symm,P d (YZ ..),by omega⟩ (QwD (by simpa using h) F fun d hd=>P d (YP _ hd))
structure GL(K:Nat)(b:Bd)(t:Int)(line:Bool)(k:Nat)(r:Mach×List Inp)(g:Mach):Prop where
 p:L3 (PJ K k) b.2.2.1 r.1.2.2.1 g.2.2.1
 o:r.2=[]
 c:r.1.2.1=g.2.1
 s:r.1.2.2.2=g.2.2.2
 t:r.1.1=min (t+k) 1099511627776
 l:QC b g.2.2.1=line
 e:1≤k→r.1.2.2.1=List.zipWith (fun c d=>itF c d k) b.2.2.1 g.2.2.1
theorem QmW{b:Bd}{m:Mach}{l:List Inp}{K:Nat}(T:∀c∈b.2.2.1,cP c)(J:b.2.2.1.length=m.2.2.1.length)(P:∀d∈m.2.2.1,u8s d.2)(Z:(K:Int)≤QaY b m)(hcalm:∀x∈l,¬(m.1≤x.1∧x.1<m.1+K))(ht:0≤m.1∧m.1≤1099511627776) :
 ∀k,k≤K→(∀j<k,QsE b (QC b m.2.2.1) (glK b (QC b m.2.2.1) j m)=true)→GL K b m.1 (QC b m.2.2.1) k (Qbz b l k (m,[])) (glK b (QC b m.2.2.1) k m)
 |0,_,_=>by
  refine⟨QwD J Z P,rfl,rfl,rfl,?_,rfl,fun h=>by omega⟩;show m.1=min (m.1+(0:Nat)) 1099511627776;omega
 |k+1,hk,C=>by
  have hK1:K≤100000:=by have:=Qhq b.2.2.1 m.2.2.1 100000;have:(K:Int)≤QeL b.2.2.1 m.2.2.1 100000:=Z;omega
  have ih:=QmW T J P Z hcalm ht k (by omega) fun j hj=>C j (by omega)
  have B:=C k (by omega);rw[Qa6];generalize hL:QC b m.2.2.1=line at *;show GL K b m.1 line (k+1) _ (Qcd b line (glK b line k m));generalize Qbz b l k (m,[])=r at *;generalize glK b line k m=g at *;obtain⟨⟨rt,rk,rd,rs⟩,ro⟩:=r;obtain⟨gt,gk,gd,gs⟩:=g;obtain⟨i1,i2,i3,i4,i5,i6,i7⟩:=ih;have i1:L3 (PJ K k) b.2.2.1 rd gd:=i1;have i2:ro=[]:=i2;have i3:rk=gk:=i3;have i5:rt=min (m.1+k) 1099511627776:=i5;have i6:QC b gd=line:=i6;subst i2 i3;have B:QdR b (Qk b.2.1 rk line).2=true:=B;have O:QM b.2.2.1 rt l (rd,rk.2.2.2)=(rd,rk.2.2.2):=QjK fun x Y he=>hcalm x Y (by omega)
  have hln:QC b rd=line:=(show QC b rd=QC b gd from QeD (i1.zip fun c d e r=>r.kask (by omega)) (by rw[←i1.len.1,i1.len.2])).trans i6
  have hcy:Qs b (rt,rk,rd,rs) l=((Qcg rt,QL b.2.1 (Qk b.2.1 rk line).1 (Qb4 b rd (Qk b.2.1 rk line).2),List.zipWith Qg b.2.2.1 (QaX b rd (Qk b.2.1 rk line).2),(Qk b.2.1 rk line).2.1,(Qk b.2.1 rk line).2.2.1,Qb4 b rd (Qk b.2.1 rk line).2),
   Qfh rt b.2.2.1 (List.zipWith Qg b.2.2.1 (QaX b rd (Qk b.2.1 rk line).2)) (List.zipWith Qat b.2.2.1 rd)):=by
   unfold Qs;dsimp only;rw[O];dsimp only;rw[hln]
  rw[hcy];dsimp only;have hI:=QEK B i1;obtain⟨s1,s2⟩:=QEL hK1 B T i1
  have U:List.zipWith Qat b.2.2.1 (List.zipWith Qg b.2.2.1 (QaX b rd (Qk b.2.1 rk line).2))=List.zipWith Qat b.2.2.1 rd:=by
   rw[s2.zip fun c d e r=>r.shw hk,QwB B fun c d e h=>by rw[QB0 h,QB0 h]];exact(i1.zip fun c d e r=>r.shw (by omega)).symm
  refine⟨s2,?_,?_,?_,?_,?_,fun _=>s1⟩
  ·rw[←U,QmU];rfl
  ·show QL _ _ _=QL _ _ _;rw[hI]
  ·show(_,_,_)=(_,_,_)
   rw[hI]
  ·show Qcg rt=_;rw[QmV (by omega)];omega
  ·refine Eq.trans (show QC b (QaX b gd (Qk b.2.1 rk line).2)=QC b gd from QeD (QwB (f:=QaE) B fun c d e h=>by rw[QwA h,QwA h]) ?_) i6;rw[←s2.len.2,i1.len.2]
abbrev QOa:Sig:=⟨true,QN0⟩
def Qfd(t:Int):List Inp→Int→Int
 | [],n=>n
 |x::r,n=>Qfd t r (if x.1≥t then imin n (x.1-t) else n)
def Qa7(m:Mach)(l:List Inp):Int:=Qfd m.1 l 100000
theorem QjL{t:Int}{l:List Inp}{k:Nat}(K:k<l.length)(n:Int):Qfd t (l.drop k) n=Qfd t (l.drop (k+1)) (if (l.getD k (dflt Qv)).1≥t then imin n ((l.getD k (dflt Qv)).1-t) else n):=by
 have e2:l.drop k=l.getD k (dflt Qv)::l.drop (k+1):=by rw[YJ K,Yd,Ye K];rfl
 rw[e2];rfl
theorem QwE{t:Int}{l:List Inp}{k:Nat}(K:¬k<l.length)(n:Int):Qfd t (l.drop k) n=n:=by
 rw[show l.drop k=[] from Yk (by omega)];rfl
theorem QqH(t:Int):∀(l:List Inp) (n:Int),Qfd t l n≤n
 | [],n=>Int.le_refl _
 |x::r,n=>by
  have:=QqH t r (if x.1≥t then imin n (x.1-t) else n);show Qfd t r (if x.1≥t then imin n (x.1-t) else n)≤n;split at this<;>rename_i h
  ·rw[Yf h];rw[QS] at *;omega
  ·rw[Yb h];exact this
theorem QqI{t:Int}:∀{l:List Inp} {n:Int},∀x∈l,x.1≥t→Qfd t l n≤x.1-t
 | [],n,x,h,_=>by cases h
 |y::r,n,x,h,H=>by
  show Qfd t r (if y.1≥t then imin n (y.1-t) else n)≤x.1-t;rcases Yt.1 h with rfl|h
  ·rw[Yf H];have:=QqH t r (imin n (x.1-t));rw[QS] at *;omega
  ·exact QqI x h H
theorem Qla{t:Int}:∀{l:List Inp} {n:Int},0≤n→0≤Qfd t l n
 | [],n,h=>h
 |y::r,n,h=>by
  show 0≤Qfd t r (if y.1≥t then imin n (y.1-t) else n);refine Qla ?_;split
  ·rw[QS];omega
  ·exact h
theorem QHZ(c:Cv)(d:Dv):0≤QcD c d:=by
 obtain⟨cn,ck,cb,cs,cd⟩:=c;obtain⟨N,M⟩:=d;rcases kinds ck with rfl|rfl|rfl|rfl|rfl|rfl|rfl|rfl|rfl|H
 ·exact(by decide:(0:Int)≤100000)
 ·exact(by decide:(0:Int)≤100000)
 ·exact(by decide:(0:Int)≤100000)
 ·show 0≤Qd9 N;unfold Qd9;split<;>(try dsimp only[tA])<;>omega
 ·exact(by decide:(0:Int)≤100000)
 ·show 0≤Qea N;unfold Qea;split<;>(try dsimp only[s1] at *)<;>omega
 ·show 0≤Qct (vM M) (vP N);have h:=QiB (vM M) (vP N) 0 (by omega) 2560 (by omega) fun k P h2=>by omega
  exact h
 ·show 0≤min (Qi (vo N 0)) (Qi (vo N 6))
  have D:∀l,0≤Qi l:=fun l=>by
   unfold Qi;split
   ·repeat' split
    all_goals omega
   ·omega
  have P:=D (vo N 0);have h2:=D (vo N 6);omega
 ·show 0≤QgR N;unfold QgR;split<;>omega
 ·unfold QcD;rw[Qai H];decide
theorem Qlb:∀(cs:List Cv) (ds:List Dv) (n:Int),0≤n→0≤QeL cs ds n
 | [],ds,n,h=>h
 |c::cs,[],n,h=>h
 |c::cs,d::ds,n,h=>Qlb cs ds _ (by have:=QHZ c d;rw[QS];omega)
def QH0(m:Mach)(l:List Inp):Prop:=(0≤m.1∧m.1≤1099511627776)∧l.length≤4611686018427387904∧∀x∈l,Q1 x.1
def QH1:PSpec:=⟨[gM,gIn],fun(m,l,_)=>(some (QH0 m l),I (Qa7 m l),[])⟩
theorem QAh:G0 84 QH1.spec:=by
 have j:S0 _:=(Qb (T:=tree))
 have s:=tabs j Qc;refine QH1.gd s j Tryz.func84 fun(m:Mach) (l:List Inp) D=>?_
 obtain⟨ht,hl,H⟩:QH0 m l:=D _ rfl;clear D;have O:Qa7 m l=Qfd m.1 l 100000:=rfl;obtain⟨tm,⟨r,op,at_,J⟩,ds,bd,q,G⟩:=m;have ht:0≤tm∧tm≤1099511627776:=ht;have O:Qa7 (tm,(r,op,at_,J),ds,bd,q,G) l=Qfd tm l 100000:=O
 repeat' first|(apply Ea;conv=>whnf)|apply Eb|apply Ec|apply Ed|apply Ee|(apply Ei;intro _)|apply Ef s j
 refine QA s j (A:=Int) l.length (fun i o=>St.mk (E2 ((.cell (.ptr 0 0))::E2 ((I o)::E2 ((.cell (.ro Qv l))::(I l.length)::(I i)::E10 (E5 (E2 []))))))
  [some (.var [.imm (.int .i64 tm),.run .i64 9 r,.imm (.int .i64 op),.imm (.int .i64 at_),.imm (.bool J),.ro Qh ds,.imm (.int .i64 bd),.imm (.int .i64 q),.imm (.int .i64 G)])])
  (fun k o=>Qfd tm (l.drop k) o=Qfd tm l 100000) 100000 (Le.k [] [0] ?_) rfl fun k o K L=>?_
 ·repeat' constructor
 repeat' first|(apply Ea;conv=>whnf)|apply Eb|apply Ec|apply Ed|apply Ee|(apply Ei;intro _)|apply Ef s j
 all_goals(try dsimp only[Qf] at *)
 all_goals clear s j
 ·rename_i g;have g:(k:Int)<(l.length:Int):=g;show 0≤(k:Int)∧(k:Int)<(l.length:Int);omega
 ·rename_i g f;have g:(k:Int)<(l.length:Int):=g;have f:(l.getD k (dflt Qv)).1≥tm:=f;have g3:=H _ (QK (dflt Qv) (show k<l.length by omega));unfold Q1 at g3;have e:IntKind.i64.wrap ((l.getD k (dflt Qv)).1-tm)=(l.getD k (dflt Qv)).1-tm:=w64 (by omega) (by omega);apply Ex _ [] [0]
  ·repeat' constructor
  ·omega
  ·exact QJ (by omega)
  rw[←L,QjL (k:=k) (by omega),Yf f,←e];rfl
 ·rename_i g f;have g:(k:Int)<(l.length:Int):=g;have f:¬(l.getD k (dflt Qv)).1≥tm:=f;apply Ex _ [] [0]
  ·repeat' constructor
  ·omega
  ·exact QJ (by omega)
  rw[←L,QjL (k:=k) (by omega),Yb f]
 ·rename_i g;have g:¬(k:Int)<(l.length:Int):=g;refine .k [] [] _ rfl (Qd ?_);rw[O,←L,QwE (by omega)]
def QMg:PSpec:=⟨[gBd,QOa],fun(b,x,_)=>(some (bP b x.2.1),.cell (bv (QdR b x)),[])⟩
theorem QwF:G0 154 QMg.spec:=by
 have j:S0 _:=Qa Qef (Qb (T:=tree));have s:=tabs j Qc;refine QMg.gd s j Tryz.func154 fun(b:Bd) (x:Bsv) D=>?_
 have P:bP b x.2.1:=D _ rfl;clear D;obtain⟨F,⟨z,C,u,w,B⟩,p,E⟩:=b;obtain⟨bd,q,G⟩:=x
 repeat' first|(apply Ea;conv=>whnf)|apply Eb|apply Ec|apply Ed|apply Ee|(apply Ei;intro _)|apply Ef s j
 all_goals(try dsimp only[Qf] at *)
 all_goals clear s j
 ·exact P
 ·rename_i g;have g:bd=0:=g;subst g;exact .k [] [] _ rfl (Qj rfl)
 ·rename_i g f;have f:(!QrW (F,(z,C,u,w,B),p,E) q)=true:=f;refine .k [] [] _ rfl (Qj ?_);show true=(decide (bd=0)||(!QrW (F,(z,C,u,w,B),p,E) q||decide ((p.getD (fI (F,(z,C,u,w,B),p,E) q).toNat (dflt Qe)).2.1≤2)))
  rw[f];simp
 ·rename_i g f;obtain⟨⟨f1,f2⟩,f3⟩:=QeU (b:=(F,(z,C,u,w,B),p,E)) (a:=q) f;rw[f3];exact⟨f1,f2⟩
 ·rename_i g f;have g:¬bd=0:=g;have f:(!QrW (F,(z,C,u,w,B),p,E) q)=false:=f;refine .k [] [] _ rfl (Qj ?_);show decide ((p.getD (fI (F,(z,C,u,w,B),p,E) q).toNat (dflt Qe)).2.1≤2)=(decide (bd=0)||(!QrW (F,(z,C,u,w,B),p,E) q||decide ((p.getD (fI (F,(z,C,u,w,B),p,E) q).toNat (dflt Qe)).2.1≤2)))
  rw[f,Yn g];rfl
def QId:PSpec:=⟨[⟨false,.sl (.int .u8)⟩],fun(l,_)=>(some (List.length l*1≤140737488351232),.cell (.own 0),[.arr (.int .u8) l])⟩
theorem QEZ:G0 129 QId.spec:=by
 have a:S0 _:=(Qb (T:=tree))
 have d:=tabs a Qc;refine QId.gd d a Tryz.func129 fun(l:List Int) p=>?_
 have s:l.length*1≤140737488351232:=p _ rfl;clear p
 repeat' first|(apply Ea;conv=>whnf)|apply Eb|apply Ec|apply Ed|apply Ee|(apply Ei;intro _)|apply Ef d a|apply Eg d a
 all_goals first
  |exact Ya rfl
  |skip
 ·rename_i h;obtain rfl:l=[]:=Yr h;exact .le (Le.nil 2 (.int .u8) rfl) (.k [] [0] _ R R)
 ·show(0+l.length)*1≤140737488355328;omega
 ·exact .k [] [1] _ R R
def QIe(b:Bd):Prop:=bdP b∧tsP b.2.1
def bdV(b:Bd):AV:=.agg [.imm (.string b.1),.imm (.string b.2.1.1),.ro Qap b.2.1.2.1,.ro Qp b.2.1.2.2.1,.ro Qp b.2.1.2.2.2.1,.ro Qp b.2.1.2.2.2.2,.ro Qe b.2.2.1,.ro Qo b.2.2.2]
def QB7:PSpec:=⟨[gBd],fun(b,_)=>(some (QIe b),bdV b,[])⟩
theorem QqO:G0 92 QB7.spec:=by
 have a:S0 _:=Qa QwW (Qa QEZ (Qa QwY (Qa Qw0 (Qa Qqg (Qb (T:=tree))))));have d:=tabs a Qc;refine QB7.gd d a Tryz.func92 fun(b:Bd) p=>?_
 obtain⟨⟨⟨s,u⟩,w⟩,⟨t1,t2⟩,t3,t4,t5⟩:QIe b:=p _ rfl;clear p;obtain⟨t,⟨r,f,j,m,n⟩,e,q⟩:=b;have s:e.length*64≤140737488351232:=s;have u:q.length*32≤140737488351232:=u;have w:∀c∈e,cP c∧c.1.size≤140737488351232:=w;have t1:f.length*56≤140737488351232:=t1;have t2:∀x∈f,Qb9 x.2.2.2:=t2;have t3:Qb9 j:=t3;have t4:Qb9 m:=t4;have t5:Qb9 n:=t5
 repeat' first|(apply Ea;conv=>whnf)|apply Eb|apply Ec|apply Ed|apply Ee|(apply Ei;intro _)|apply Ef d a|apply Eg d a
 all_goals(try dsimp only[Qf] at *)
 ·exact s
 refine QA d a (A:=Unit) e.length (fun i _=>St.mk (E1 ((.cell (.ptr 0 0))::(.cell (.ptr 1 0))::E10 ((I e.length)::(I i)::E40 (E20 (E5 (E2 []))))))
  [some (.var [.imm (.string t),.imm (.string r),.ro Qap f,.ro Qp j,.ro Qp m,.ro Qp n,.own 2,.ro Qo q]),
   some (.var [.imm (.string ByteArray.empty),.imm (.string ByteArray.empty),.imm (.slice none 0 0),.imm (.slice none 0 0),.imm (.slice none 0 0),.imm (.slice none 0 0),.imm (.slice none 0 0),.imm (.slice none 0 0)]),some (.arr Qe e)])
  (fun k _=>True) () (Le.k [] [0,1,2] ?_) trivial fun k _ hk _=>?_
 ·repeat' constructor
 repeat' first|(apply Ea;conv=>whnf)|apply Eb|apply Ec|apply Ed|apply Ee|(apply Ei;intro _)|apply Ef d a|apply Eg d a
 all_goals(try dsimp only[Qf] at *)
 ·rename_i g;show 0≤(k:Int)∧(k:Int)<(e.length:Int);omega
 ·rename_i g;show k<e.length;omega
 ·rename_i g;show k<e.length;omega
 ·rename_i g;exact YG (Nat.le_of_eq (Nat.mul_one _)) (w _ (QK (dflt Qe) (show k<e.length by omega))).1.2.2
 ·rename_i g;show 0≤(k:Int)∧(k:Int)<(e.length:Int);omega
 ·rename_i g;show k<e.length;omega
 ·rename_i g;show k<e.length;omega
 ·rename_i g;have g:(k:Int)<(e.length:Int):=g;apply Yw;apply Yw ();refine Yo (Yo ?lt (Yo ?ei trivial)) (Le.mk [] [0,1,2] R R ?hh ?ht)
  case hh=>exact Yv (fun z=>[some (.var [.imm (.string t),.imm (.string r),.ro Qap f,.ro Qp j,.ro Qp m,.ro Qp n,.own 2,.ro Qo q]),some (.var [.imm (.string ByteArray.empty),.imm (.string ByteArray.empty),.imm (.slice none 0 0),.imm (.slice none 0 0),.imm (.slice none 0 0),.imm (.slice none 0 0),.imm (.slice none 0 0),.imm (.slice none 0 0)]),some (Blk.arr Qe z)]) (QfT e k (dflt Qe))
  case ht=>repeat' constructor
  case lt=>omega
  case ei=>exact QJ (by omega)
 ·exact u
 ·exact t1
 refine QA d a (A:=Unit) f.length (fun i _=>St.mk (E1 ((.cell (.ptr 0 0))::(.cell (.ptr 1 0))::E40 ((I f.length)::(I i)::E20 (E10 (E5 (E2 []))))))
  [some (.var [.imm (.string t),.imm (.string r),.own 4,.ro Qp j,.ro Qp m,.ro Qp n,.own 2,.own 3]),some (.var [.imm (.string ByteArray.empty),.imm (.string ByteArray.empty),.imm (.slice none 0 0),.imm (.slice none 0 0),.imm (.slice none 0 0),.imm (.slice none 0 0),.imm (.slice none 0 0),.imm (.slice none 0 0)]),some (.arr Qe e),some (.arr Qo q),some (.arr Qap f)])
  (fun k _=>True) () (Le.k [] [0,1,2,3,4] ?_) trivial fun k2 _ hk2 _=>?_
 ·repeat' constructor
 repeat' first|(apply Ea;conv=>whnf)|apply Eb|apply Ec|apply Ed|apply Ee|(apply Ei;intro _)|apply Ef d a|apply Eg d a
 all_goals(try dsimp only[Qf] at *)
 ·rename_i g;show 0≤(k2:Int)∧(k2:Int)<(f.length:Int);omega
 ·rename_i g;show k2<f.length;omega
 ·rename_i g;exact t2 _ (Qvv (k:=k2) (by omega))
 ·rename_i g;show 0≤(k2:Int)∧(k2:Int)<(f.length:Int);omega
 ·rename_i g;show k2<f.length;omega
 ·rename_i g;have g:(k2:Int)<(f.length:Int):=g;apply Yw;apply Yw ();refine Yo (Yo ?lt (Yo ?ei trivial)) (Le.mk [] [0,1,2,3,4] R R ?hh ?ht)
  case hh=>exact Yv (fun z=>[some (.var [.imm (.string t),.imm (.string r),.own 4,.ro Qp j,.ro Qp m,.ro Qp n,.own 2,.own 3]),some (.var [.imm (.string ByteArray.empty),.imm (.string ByteArray.empty),.imm (.slice none 0 0),.imm (.slice none 0 0),.imm (.slice none 0 0),.imm (.slice none 0 0),.imm (.slice none 0 0),.imm (.slice none 0 0)]),some (.arr Qe e),some (.arr Qo q),some (Blk.arr Qap z)]) (QfT f k2 (dflt Qap))
  case ht=>repeat' constructor
  case lt=>omega
  case ei=>exact QJ (by omega)
 refine QP 4 ?_
 repeat' first|(apply Ea;conv=>whnf)|apply Eb|apply Ec|apply Ed|apply Ee|(apply Ei;intro _)|apply Ef d a|apply Eg d a
 all_goals(try dsimp only[Qf] at *)
 all_goals clear d a
 ·exact Ya rfl
 ·exact t3
 ·exact Ya rfl
 ·exact t4
 ·exact Ya rfl
 ·exact t5
 ·exact .k [2,3,4] [] _ R R
theorem QCb{b:Bd}(h:Wf gBd.t b):bdP b :=
 ⟨⟨h.2.2.1.1,h.2.2.2.1⟩,fun c hc=>⟨QK9 (h.2.2.1.2 c hc),(h.2.2.1.2 c hc).1⟩⟩
theorem QE4{b:Bd}(h:Wf gBd.t b):QFg b:=⟨QCb h,fun w hw=>(h.2.2.2.2 w hw).1⟩
theorem QE5{l:List Inp}(h:Wf (.sl Qv) l):l.length≤4611686018427387904:=YG (Nat.le_mul_of_pos_right _ (by decide)) (YG h.1 (by decide))
end Go.Proofs.YtofgbclopbmlcaaGreat

