/- Part 45 of the proof. Conditions: none. -/
import Derived.Test.YtofgbclopbmlcaaGreatG44
import Derived.Test.YtofgbclopbmlcaaGreatG33
import Derived.Test.YtofgbclopbmlcaaGreatG36
import Derived.Test.YtofgbclopbmlcaaGreatG43
namespace Go.Proofs.YtofgbclopbmlcaaGreat
open Go.Fw
set_option linter.unusedVariables false
set_option linter.unusedSimpArgs false
set_option linter.constructorNameAsVariable false
set_option maxRecDepth 100000
theorem QJk(N:List Int):tA (Qbf N)=tA N:=Int.emod_emod _ _
theorem QKj(N:List Int):tB (Qbf N)=tB N:=Int.emod_emod _ _
theorem QJl(N:List Int):tC (Qbf N)=tC N:=Int.emod_emod _ _
theorem QJm(N:List Int):tF (Qbf N)=tF N:=Int.emod_emod _ _
theorem QJn(N:List Int):s0 (Qa9 N)=s0 N:=Int.emod_emod _ _
theorem QHm(N:List Int):s1 (Qa9 N)=s1 N:=Int.emod_emod _ _
theorem QHn(N:List Int):s2 (Qa9 N)=s2 N:=Int.emod_emod _ _
theorem QHo(N:List Int):s3 (Qa9 N)=s3 N:=Int.emod_emod _ _
theorem QHp(N:List Int):s4 (Qa9 N)=s4 N:=Int.emod_emod _ _
theorem QHq(N:List Int):s5 (Qa9 N)=s5 N:=Int.emod_emod _ _
theorem QJo(N:List Int):s6 (Qa9 N)=s6 N:=Int.emod_emod _ _
theorem QJp(N:List Int):s7 (Qa9 N)=s7 N:=Int.emod_emod _ _
theorem QKk(N:List Int):(Qax N).getD 0 0%256=N.getD 0 0%256:=Int.emod_emod _ _
theorem QJq(N:List Int):(Qax N).getD 1 0%256=N.getD 1 0%256:=Int.emod_emod _ _
theorem QJr(N:List Int):(Qax N).getD 2 0%256=N.getD 2 0%256:=Int.emod_emod _ _
theorem QHr(N:List Int):vH (vN N)=vH N:=Int.emod_emod _ _
theorem QHs(N:List Int)(q:Nat):e1 (dN N q)=e1 N:=Int.emod_emod _ _
theorem QJs(N:List Int)(q:Nat):e3 (dN N q)=e3 N:=Int.emod_emod _ _
theorem QJt(N:List Int)(q:Nat):e4 (dN N q)=e4 N:=Int.emod_emod _ _
theorem QJu(N:List Int)(q:Nat):e5 (dN N q)=e5 N:=Int.emod_emod _ _
theorem QHt(N:List Int)(q:Nat):e6 (dN N q)=e6 N:=Int.emod_emod _ _
theorem QHu(N:List Int)(q:Nat):e7 (dN N q)=e7 N:=Int.emod_emod _ _
theorem QHv(N:List Int)(q:Nat):e8 (dN N q)=e8 N:=Int.emod_emod _ _
theorem QHw(N:List Int)(q:Nat):e9 (dN N q)=e9 N:=Int.emod_emod _ _
theorem QHx(N:List Int)(q:Nat):e2 (dN N q)=e2 N:=by
 show(if (if N.getD 2 0%8>4 then 0 else N.getD 2 0%8)%8>4 then 0 else (if N.getD 2 0%8>4 then 0 else N.getD 2 0%8)%8)=(if N.getD 2 0%8>4 then 0 else N.getD 2 0%8)
 split<;>(try split)<;>omega
theorem QJv(N:List Int)(q:Nat):e0 (dN N q) q=e0 N q:=by
 show(if (if N.getD 0 0%256>q then 0 else N.getD 0 0%256)%256>q then 0 else (if N.getD 0 0%256>q then 0 else N.getD 0 0%256)%256)=(if N.getD 0 0%256>q then 0 else N.getD 0 0%256)
 split<;>(try split)<;>omega
theorem QL4(N:List Int)(q:Nat):dN N q=[e0 N q,e1 N,e2 N,e3 N,e4 N,e5 N,e6 N,e7 N,e8 N,e9 N]:=rfl
theorem QHy(N:List Int)(q:Nat):dN (dN N q) q=dN N q:=by
 rw[QL4 (dN N q),QJv,QHs,QHx,QJs,QJt,QJu,QHt,QHu,QHv,QHw];rfl
theorem QDJ(M:List Int):qF (dM M)=qF M:=by
 show(dM M).length/256=_;rw[QhI];omega
theorem QGG(M:List Int):dM (dM M)=dM M:=by
 show(dM M).take (qF (dM M)*256)=_;rw[QDJ,List.take_of_length_le (by rw[QhI];exact Nat.le_refl _)]
theorem QKl(N:List Int):(Qah N).getD 0 0%4096=N.getD 0 0%4096:=Int.emod_emod _ _
theorem QL5(N:List Int):(Qah N).getD 1 0%16=N.getD 1 0%16:=Int.emod_emod _ _
theorem QL6(N:List Int):(Qah N).getD 2 0%256=N.getD 2 0%256:=Int.emod_emod _ _
theorem QKm(N:List Int):(Qah N).getD 6 0%4096=N.getD 6 0%4096:=Int.emod_emod _ _
theorem QL7(N:List Int):(Qah N).getD 7 0%16=N.getD 7 0%16:=Int.emod_emod _ _
theorem QL8(N:List Int):(Qah N).getD 8 0%256=N.getD 8 0%256:=Int.emod_emod _ _
theorem QJw(N:List Int):vN (vN N)=vN N:=by
 show[vP (vN N),vH (vN N)]=_;rw[Qgv,QHr];rfl
theorem QDK(c:Cv)(d:Dv):Q4 c (Q4 c d)=Q4 c d:=by
 obtain⟨cn,ck,cb,cs,cd⟩:=c;obtain⟨N,M⟩:=d;rcases kinds ck with rfl|rfl|rfl|rfl|rfl|rfl|rfl|rfl|rfl|hx
 ·exact QS (cn,0,cb,cs,cd) (N,M)
 ·exact QS (cn,1,cb,cs,cd) (N,M)
 ·exact QS (cn,2,cb,cs,cd) (N,M)
 ·show(Qbf (Qbf N),([]:List Int))=(Qbf N,[])
  rw[QfE]
 ·show(Qax (Qax N),([]:List Int))=(Qax N,[])
  rw[Qdk]
 ·show(Qa9 (Qa9 N),([]:List Int))=(Qa9 N,[])
  rw[QhH]
 ·show(vN (vN N),vM (vM M))=(vN N,vM M)
  rw[QJw,QbT]
 ·show(Qah (Qah N),([]:List Int))=(Qah N,[])
  rw[Qdj]
 ·show(dN (dN N (qF M)) (qF (dM M)),dM (dM M))=(dN N (qF M),dM M)
  rw[QDJ,QHy,QGG]
 ·unfold Q4;rw[Qaa hx,Qaa hx]
theorem QnY(c:Cv)(d:Dv):Qh c (Q4 c d)=Qh c d:=by
 obtain⟨cn,ck,cb,cs,cd⟩:=c;obtain⟨N,M⟩:=d;rcases kinds ck with rfl|rfl|rfl|rfl|rfl|rfl|rfl|rfl|rfl|hx
 ·exact QS (cn,0,cb,cs,cd) (N,M)
 ·exact QS (cn,1,cb,cs,cd) (N,M)
 ·exact QS (cn,2,cb,cs,cd) (N,M)
 ·show(QaE (Qbf (Qbf N)),([]:List Int))=(QaE (Qbf N),[])
  rw[QfE]
 ·show(Qax (Qax N),([]:List Int))=(Qax N,[])
  rw[Qdk]
 ·show(Qab (Qa9 (Qa9 N)),([]:List Int))=(Qab (Qa9 N),[])
  rw[QhH]
 ·show(QaS (vM (vM M)) (vN (vN N)),vM (vM M))=(QaS (vM M) (vN N),vM M)
  rw[QJw,QbT]
 ·show(QaO (Qah (Qah N)),([]:List Int))=(QaO (Qah N),[])
  rw[Qdj]
 ·show Qat (dN (dN N (qF M)) (qF (dM M)),dM (dM M))=Qat (dN N (qF M),dM M);rw[QDJ,QHy,QGG]
 ·unfold Qh;rw[Qaa hx,Qaa hx]
theorem QBb(c:Cv)(d:Dv)(k:Int):Qmc c (Q4 c d) k=Qmc c d k:=by
 obtain⟨cn,ck,cb,cs,cd⟩:=c;obtain⟨N,M⟩:=d;rcases kinds ck with rfl|rfl|rfl|rfl|rfl|rfl|rfl|rfl|rfl|hx
 ·exact QS (cn,0,cb,cs,cd) (N,M)
 ·exact QS (cn,1,cb,cs,cd) (N,M)
 ·exact QS (cn,2,cb,cs,cd) (N,M)
 ·show(Qbf (Qbf N),([]:List Int))=(Qbf N,[])
  rw[QfE]
 ·show(QxC (Qax N) k,([]:List Int))=(QxC N k,[])
  unfold QxC;rw[QJq,QJr]
 ·show(QlD (Qa9 N) k,([]:List Int))=(QlD N k,[])
  unfold QlD;rw[QJn,QHm,QHn,QHo,QHp,QHq,QJo,QJp]
 ·show(vN (vN N),vM (vM M))=(vN N,vM M)
  rw[QJw,QbT]
 ·show(Qah (Qah N),([]:List Int))=(Qah N,[])
  rw[Qdj]
 ·show(dcN (dN N (qF M)) (qF (dM M)) k,dM (dM M))=(dcN N (qF M) k,dM M)
  rw[QDJ,QGG];unfold dcN;rw[QHs,QHx,QJs,QJt,QJu,QHt,QHu,QHv,QHw,QHy]
 ·unfold Qmc;rw[Qaa hx,Qaa hx]
theorem Qqi(c:Cv)(d:Dv)(a:Int):loadD c (Q4 c d) a=loadD c d a:=by
 obtain⟨cn,ck,cb,cs,cd⟩:=c;obtain⟨N,M⟩:=d;rcases kinds ck with rfl|rfl|rfl|rfl|rfl|rfl|rfl|rfl|rfl|hx
 ·exact QS (cn,0,cb,cs,cd) (N,M)
 ·exact QS (cn,1,cb,cs,cd) (N,M)
 ·exact QS (cn,2,cb,cs,cd) (N,M)
 ·show(trN (Qbf N) a,([]:List Int))=(trN N a,[])
  unfold trN;rw[QJk,QKj,QJl,QJm]
 ·show(Qax (Qax N),([]:List Int))=(Qax N,[])
  rw[Qdk]
 ·show(srN (Qa9 N) a,([]:List Int))=(srN N a,[])
  unfold srN;rw[QJn,QHm,QHn,QHo,QHp,QHq,QJo,QJp]
 ·show(vrN (vN N) a,vM (vM M))=(vrN N a,vM M)
  unfold vrN;rw[Qgv,QHr,QbT]
 ·show(Qah (Qah N),([]:List Int))=(Qah N,[])
  rw[Qdj]
 ·show(drN (dN N (qF M)) (qF (dM M)) a,dM (dM M))=(drN N (qF M) a,dM M)
  rw[QDJ,QGG];unfold drN;rw[QJv,QHs,QHx,QJs,QJt,QJu,QHt,QHu,QHv,QHw]
 ·unfold loadD;rw[Qaa hx,Qaa hx]
theorem QkU(c:Cv)(d:Dv)(a:Int):Qb2 c (QcR c d) a=Qb2 c d a:=by
 unfold Qb2;rw[QS];show(if QB c (QcR c d) a≥0 then (QaT c (QaT c d.2)).getD (QB c (QcR c d) a).toNat 0 else if c.2.1=2∧a=0 then (memN c (memN c d.1)).getD 0 0 else 0)=_;rw[Qix,Qiy]
theorem QkV(c:Cv)(d:Dv)(a k:Int):QaY c (QcR c d) a k=QaY c d a k:=by
 unfold QaY;rw[QS];show(if c.2.1=1 then QcR c d else if QB c (QcR c d) a≥0 then (memN c (memN c d.1),(QaT c (QaT c d.2)).set (QB c (QcR c d) a).toNat (k%256)) else if c.2.1=2∧a=0 then ((memN c (memN c d.1)).set 0 (k%256%Qao c),QaT c (QaT c d.2)) else QcR c d)=_;rw[Qix,Qiy]
theorem Qqj(c:Cv)(d:Dv)(a:Int):loadI c (Q4 c d) a=loadI c d a:=by
 obtain⟨cn,ck,cb,cs,cd⟩:=c;obtain⟨N,M⟩:=d;rcases kinds ck with rfl|rfl|rfl|rfl|rfl|rfl|rfl|rfl|rfl|hx
 ·exact QkU (cn,0,cb,cs,cd) (N,M) a
 ·exact QkU (cn,1,cb,cs,cd) (N,M) a
 ·exact QkU (cn,2,cb,cs,cd) (N,M) a
 ·show trF (Qbf N) a=trF N a;unfold trF;rw[QJk,QJl,QJm]
 ·show QfD (Qax N) a=QfD N a;unfold QfD Qq0;rw[QKk,QJq,QJr]
 ·show srF (Qa9 N) a=srF N a;unfold srF;rw[QHm,QHn,QHo,QHp,QHq]
 ·show vrF (vN N) (vM (vM M)) a=vrF N (vM M) a;unfold vrF;rw[Qgv,QHr,QbT]
 ·show orF (Qah N) a=orF N a;unfold orF;rw[QKl,QL5,QL6,QKm,QL7,QL8]
 ·show drF (dN N (qF M)) (qF (dM M)) a=drF N (qF M) a;rw[QDJ];unfold drF;rw[QJv,QHs,QHx,QHt,QHu,QHv,QHw]
 ·unfold loadI;rw[Qaa hx,Qaa hx]
theorem Qqk(c:Cv)(d:Dv)(a k:Int):Qbb c (Q4 c d) a k=Qbb c d a k:=by
 obtain⟨cn,ck,cb,cs,cd⟩:=c;obtain⟨N,M⟩:=d;rcases kinds ck with rfl|rfl|rfl|rfl|rfl|rfl|rfl|rfl|rfl|hx
 ·exact QkV (cn,0,cb,cs,cd) (N,M) a k
 ·exact QkV (cn,1,cb,cs,cd) (N,M) a k
 ·exact QkV (cn,2,cb,cs,cd) (N,M) a k
 ·show(twN (Qbf N) a k,([]:List Int))=(twN N a k,[])
  unfold twN;rw[QJk,QKj,QJl,QJm]
 ·show(pwN (Qax N) a k,([]:List Int))=(pwN N a k,[])
  unfold pwN;rw[QKk,QJq,QJr]
 ·show(swN (Qa9 N) a k,([]:List Int))=(swN N a k,[])
  unfold swN;rw[QJn,QHm,QHn,QHo,QHp,QHq,QJo,QJp]
 ·show([vP (vN N),vH (vN N)],vwM (vM (vM M)) a k)=([vP N,vH N],vwM (vM M) a k)
  rw[Qgv,QHr,QbT]
 ·show(owF (Qah N) a k,([]:List Int))=(owF N a k,[])
  unfold owF;rw[Qdj,QKl,QKm]
 ·show(dwN (dN N (qF M)) (qF (dM M)) a k,dM (dM M))=(dwN N (qF M) a k,dM M)
  rw[QDJ,QGG];unfold dwN;rw[QHy]
 ·unfold Qbb;rw[Qaa hx,Qaa hx]
def QcW:List Cv→List Dv→Int→Int
 |c::cs,d::ds,n=>QcW cs ds (imin n (Qb8 c d))
 |_,_,n=>n
def QaI(b:Bd)(m:Mach):Int:=QcW b.2.2.1 m.2.2.1 100000
theorem QmH(cs:List Cv)(n:Int):QcW cs [] n=n:=by cases cs<;>rfl
theorem QeA{cs:List Cv}{ds:List Dv}{k:Nat}(hk:k<cs.length)(n:Int):QcW (cs.drop k) (ds.drop k) n=QcW (cs.drop (k+1)) (ds.drop (k+1)) (if k<ds.length then imin n (Qb8 (cs.getD k (dflt Qe)) (ds.getD k (dflt Qj))) else n):=by
 have e2:cs.drop k=cs.getD k (dflt Qe)::cs.drop (k+1):=by rw[List.drop_eq_getElem_cons hk,List.getD_eq_getElem?_getD,List.getElem?_eq_getElem hk];rfl
 by_cases h:k<ds.length
 ·have e3:ds.drop k=ds.getD k (dflt Qj)::ds.drop (k+1):=by rw[List.drop_eq_getElem_cons h,List.getD_eq_getElem?_getD,List.getElem?_eq_getElem h];rfl
  rw[e2,e3,if_pos h];rfl
 ·rw[show ds.drop k=[] from List.drop_of_length_le (by omega),show ds.drop (k+1)=[] from List.drop_of_length_le (by omega),if_neg h,QmH,QmH]
theorem QmI{cs:List Cv}{ds:List Dv}{k:Nat}(hk:¬k<cs.length)(n:Int):QcW (cs.drop k) (ds.drop k) n=n:=by
 rw[show cs.drop k=[] from List.drop_of_length_le (by omega)];rfl
def Qwn(b:Bd)(m:Mach):Prop:=b.2.2.1.length*64≤140737488351232∧(∀c∈b.2.2.1,cP c)∧∀d∈m.2.2.1,dP d
def QGH:PSpec:=⟨[gBd,gM],fun(b,m,_)=>(some (Qwn b m),I (QaI b m),[])⟩
theorem Qql:G0 31 QGH.spec:=by
 have hP:S0 _:=Qa Qyn (Qb (T:=tree));have hT:=tabs hP Qc;refine QGH.gd hT hP Tryz.func31 fun(b:Bd) (m:Mach) hq=>?_
 obtain⟨hl,hc,hd⟩:Qwn b m:=hq _ rfl;clear hq;have hE:QaI b m=QcW b.2.2.1 m.2.2.1 100000:=rfl;obtain⟨bn,⟨un,ui,ur,uq,um⟩,bc,bw⟩:=b;obtain⟨tm,⟨r,op,at_,nmi⟩,ds,bd,ba,bdt⟩:=m;have hE:QaI (bn,(un,ui,ur,uq,um),bc,bw) (tm,(r,op,at_,nmi),ds,bd,ba,bdt)=QcW bc ds 100000:=hE;have hl:bc.length*64≤140737488351232:=hl;have hc:∀c∈bc,cP c:=hc;have hd:∀d∈ds,dP d:=hd
 repeat' first|(apply Ea;conv=>whnf)|apply Eb|apply Ec<;>intro _|apply Ed<;>intro _|apply Ee<;>intro _|apply Ef hT hP
 refine QH hT hP (A:=Int) bc.length (fun i o=>St.mk (E3 ((.cell (.ptr 0 0))::E1 ((I o)::E3 ((.cell (.ro Qe bc))::(I bc.length)::(I i)::E20 []))))
  [some (.var [.imm (.int .i64 tm),.run .i64 9 r,.imm (.int .i64 op),.imm (.int .i64 at_),.imm (.bool nmi),.ro Qj ds,.imm (.int .i64 bd),.imm (.int .i64 ba),.imm (.int .i64 bdt)])])
  (fun k o=>QcW (bc.drop k) (ds.drop k) o=QcW bc ds 100000) 100000 (Le.k [] [1] ?_) rfl fun k o hk hi=>?_
 ·repeat' constructor
 repeat' first|(apply Ea;conv=>whnf)|apply Eb|apply Ec<;>intro _|apply Ed<;>intro _|apply Ee<;>intro _|apply Ef hT hP
 all_goals(try dsimp only[Qf] at *)
 all_goals clear hT hP
 ·rename_i g;have g:(k:Int)<(bc.length:Int):=g;show 0≤(k:Int)∧(k:Int)<(bc.length:Int);omega
 ·rename_i g g2;have g2:(k:Int)<(ds.length:Int):=g2;show 0≤(k:Int)∧(k:Int)<(ds.length:Int);omega
 ·rename_i g g2;have g:(k:Int)<(bc.length:Int):=g;have g2:(k:Int)<(ds.length:Int):=g2;exact⟨hc _ (QG (dflt Qe) (show k<bc.length by omega)),hd _ (QG (dflt Qj) (show k<ds.length by omega))⟩
 ·rename_i g g2;have g:(k:Int)<(bc.length:Int):=g;have g2:(k:Int)<(ds.length:Int):=g2;apply Ex _ [] [0]
  ·repeat' constructor
  ·omega
  ·exact QL (by omega)
  rw[←hi,QeA (k:=k) (by omega),if_pos (by omega)];rfl
 ·rename_i g g2;have g:(k:Int)<(bc.length:Int):=g;have g2:¬(k:Int)<(ds.length:Int):=g2;apply Ex _ [] [0]
  ·repeat' constructor
  ·omega
  ·exact QL (by omega)
  rw[←hi,QeA (k:=k) (by omega),if_neg (by omega)]
 ·rename_i g;have g:¬(k:Int)<(bc.length:Int):=g;refine .k [] [] _ rfl (Qd ?_);rw[hE,←hi,QmI (by omega)]
inductive L3(R:Cv→Dv→Dv→Prop):List Cv→List Dv→List Dv→Prop
 |nil:L3 R [] [] []
 |cons {c:Cv} {d e:Dv} {cs:List Cv} {ds es:List Dv} (h:R c d e) (r:L3 R cs ds es):L3 R (c::cs) (d::ds) (e::es)
theorem L3.len{R:Cv→Dv→Dv→Prop}{cs:List Cv}{ds es:List Dv}(h:L3 R cs ds es):cs.length=ds.length∧cs.length=es.length:=by
 induction h with
 |nil=>exact⟨rfl,rfl⟩
 |cons h r ih=>exact⟨by rw[List.length_cons,List.length_cons,ih.1],by rw[List.length_cons,List.length_cons,ih.2]⟩
theorem L3.get{R:Cv→Dv→Dv→Prop}{cs:List Cv}{ds es:List Dv}(h:L3 R cs ds es):∀{i:Nat},i<cs.length→R (cs.getD i (dflt Qe)) (ds.getD i (dflt Qj)) (es.getD i (dflt Qj)):=by
 induction h with
 |nil=>intro i hi;cases hi
 |cons h r ih =>
  intro i hi;cases i with
  |zero=>exact h
  |succ i=>exact ih (i:=i) (by rw[List.length_cons] at hi;omega)
theorem L3.zip{β:Type}{R:Cv→Dv→Dv→Prop}{cs:List Cv}{ds es:List Dv}(h:L3 R cs ds es){f g:Cv→Dv→β}(hf:∀c d e,R c d e→f c d=g c e):List.zipWith f cs ds=List.zipWith g cs es:=by
 induction h with
 |nil=>rfl
 |cons h r ih=>rw[List.zipWith_cons_cons,List.zipWith_cons_cons,hf _ _ _ h,ih]
theorem L3.mono{R Q:Cv→Dv→Dv→Prop}{cs:List Cv}{ds es:List Dv}(h:L3 R cs ds es)(hq:∀c d e,R c d e→Q c d e):L3 Q cs ds es:=by
 induction h with
 |nil=>exact .nil
 |cons h r ih=>exact .cons (hq _ _ _ h) ih
theorem L3.map{R Q:Cv→Dv→Dv→Prop}{cs:List Cv}{ds es:List Dv}(h:L3 R cs ds es){f g:Cv→Dv→Dv}(hq:∀c d e,R c d e→Q c (f c d) (g c e)):L3 Q cs (List.zipWith f cs ds) (List.zipWith g cs es):=by
 induction h with
 |nil=>exact .nil
 |cons h r ih=>exact .cons (hq _ _ _ h) ih
theorem L3.map1{R Q:Cv→Dv→Dv→Prop}{cs:List Cv}{ds es:List Dv}(h:L3 R cs ds es){f:Cv→Dv→Dv}(hq:∀c d e,R c d e→Q c (f c d) e):L3 Q cs (List.zipWith f cs ds) es:=by
 induction h with
 |nil=>exact .nil
 |cons h r ih=>exact .cons (hq _ _ _ h) ih
theorem L3.set{R Q:Cv→Dv→Dv→Prop}{cs:List Cv}{ds es:List Dv}(h:L3 R cs ds es)(hq:∀c d e,R c d e→Q c d e){x y:Dv}:∀{i:Nat},(i<cs.length→Q (cs.getD i (dflt Qe)) x y)→L3 Q cs (ds.set i x) (es.set i y):=by
 induction h with
 |nil=>intro i _;exact .nil
 |cons h r ih =>
  intro i hi;cases i with
  |zero=>exact .cons (hi (by simp)) (r.mono hq)
  |succ i=>exact .cons (hq _ _ _ h) (ih fun hl=>hi (by rw[List.length_cons];omega))
theorem L3.refl{R:Cv→Dv→Dv→Prop}{cs:List Cv}{ds:List Dv}(h:cs.length=ds.length)(hr:∀i,i<cs.length→R (cs.getD i (dflt Qe)) (ds.getD i (dflt Qj)) (ds.getD i (dflt Qj))):L3 R cs ds ds:=by
 induction cs generalizing ds with
 |nil =>
  cases ds with
  |nil=>exact .nil
  |cons d ds=>simp at h
 |cons c cs ih =>
  cases ds with
  |nil=>simp at h
  |cons d ds =>
   exact .cons (hr 0 (by simp)) (ih (by simpa using h) fun i hi=>hr (i+1) (by rw[List.length_cons];omega))
theorem QnZ{β:Type}{f:Cv→Dv→β}{x:Dv}:∀{cs:List Cv} {ds:List Dv} {i:Nat},(i<cs.length→i<ds.length→f (cs.getD i (dflt Qe)) x=f (cs.getD i (dflt Qe)) (ds.getD i (dflt Qj)))→List.zipWith f cs (ds.set i x)=List.zipWith f cs ds
 | [],ds,i,_=>by simp
 |c::cs,[],i,_=>by simp
 |c::cs,d::ds,0,h=>by
  have:=h (by simp) (by simp);show f c x::List.zipWith f cs ds=f c d::List.zipWith f cs ds;rw[show f c x=f c d from this]
 |c::cs,d::ds,i+1,h=>by
  show f c d::List.zipWith f cs (ds.set i x)=f c d::List.zipWith f cs ds;rw[QnZ (cs:=cs) (ds:=ds) (i:=i) (x:=x) fun h1 h2=>h (by rw[List.length_cons];omega) (by rw[List.length_cons];omega)]
theorem QeB:∀{hs:List Bool} {cs:List Cv} {ds es:List Dv},List.zipWith Qaz cs ds=List.zipWith Qaz cs es→ds.length=es.length→Qbw hs cs ds=Qbw hs cs es
 | [],cs,ds,es,_,_=>by simp[Qbw]
 |h::hs,[],ds,es,_,_=>by simp[Qbw]
 |h::hs,c::cs,[],[],_,_=>by simp[Qbw]
 |h::hs,c::cs,[],e::es,_,hl=>by simp at hl
 |h::hs,c::cs,d::ds,[],_,hl=>by simp at hl
 |h::hs,c::cs,d::ds,e::es,hz,hl=>by
  rw[List.zipWith_cons_cons,List.zipWith_cons_cons] at hz;injection hz with h1 h2
  show((h&&Qaz c d)||Qbw hs cs ds)=((h&&Qaz c e)||Qbw hs cs es)
  rw[h1,QeB h2 (by simpa using hl)]
theorem QmJ(t:Int):∀(cs:List Cv) (ds:List Dv),Qfe t cs ds (List.zipWith Qal cs ds)=[]
 | [],ds=>by simp[Qfe]
 |c::cs,[]=>by simp[Qfe]
 |c::cs,d::ds=>by
  show(if Qal c d=Qal c d then Qfe t cs ds (List.zipWith Qal cs ds) else _)=[]
  rw[if_pos rfl,QmJ t cs ds]
def FE(c:Cv)(d e:Dv):Prop:=Q4 c d=Q4 c e
theorem FE.tick{c:Cv}{d e:Dv}(h:FE c d e):Qh c d=Qh c e:=by rw[←QnY c d,h,QnY]
theorem FE.giv{c:Cv}{d e:Dv}(h:FE c d e)(k:Int):Qmc c d k=Qmc c e k:=by rw[←QBb c d,h,QBb]
theorem FE.loadD{c:Cv}{d e:Dv}(h:FE c d e)(k:Int):loadD c d k=loadD c e k:=by rw[←Qqi c d,h,Qqi]
theorem FE.loadI{c:Cv}{d e:Dv}(h:FE c d e)(k:Int):loadI c d k=loadI c e k:=by rw[←Qqj c d,h,Qqj]
theorem FE.store{c:Cv}{d e:Dv}(h:FE c d e)(a k:Int):Qbb c d a k=Qbb c e a k:=by rw[←Qqk c d,h,Qqk]
theorem FE.shw{c:Cv}{d e:Dv}(h:FE c d e):Qal c d=Qal c e:=by rw[←(Qcz c d).1,h,(Qcz c e).1]
theorem FE.kask{c:Cv}{d e:Dv}(h:FE c d e):Qaz c d=Qaz c e:=by rw[←(Qcz c d).2.1,h,(Qcz c e).2.1]
theorem QzG{cs:List Cv}{t:Int}{x:Inp}{s u:List Dv×Bool}(h:L3 FE cs s.1 u.1)(hn:s.2=u.2):L3 FE cs (QdA cs t s x).1 (QdA cs t u x).1∧(QdA cs t s x).2=(QdA cs t u x).2:=by
 unfold QdA;split
 ·exact⟨h,hn⟩
 ·split
  ·exact⟨h,rfl⟩
  ·refine⟨h.map fun c d e hr=>?_,hn⟩;unfold Qe5;split
   ·show Q4 c _=Q4 c _;rw[hr.giv]
   ·exact hr
theorem Qqm{cs:List Cv}{t:Int}:∀(l:List Inp) {s u:List Dv×Bool},L3 FE cs s.1 u.1→s.2=u.2→L3 FE cs (QJ cs t l s).1 (QJ cs t l u).1∧(QJ cs t l s).2=(QJ cs t l u).2
 | [],s,u,h,hn=>⟨h,hn⟩
 |x::l,s,u,h,hn=>by
  have h1:=QzG (t:=t) (x:=x) h hn;exact Qqm l h1.1 h1.2
theorem QDL{b:Bd}{ds es:List Dv}{x:Bsv}(h:L3 FE b.2.2.1 ds es):QbY b ds x=QbY b es x:=by
 unfold QbY;split
 ·split
  ·rename_i hf;have:=(QcU hf).1;exact(h.get (i:=(Qn b x.2.1).toNat) (by omega)).loadI _
  ·rfl
 ·rfl
theorem QDM{b:Bd}{ds es:List Dv}{x:Bsv}(h:L3 FE b.2.2.1 ds es):L3 FE b.2.2.1 (QaV b ds x) (QaV b es x):=by
 unfold QaV;split
 ·rename_i hf;have hi:=(QcU hf).1;have hg:=h.get (i:=(Qn b x.2.1).toNat) (by omega);split
  ·exact h.set (fun _ _ _ r=>r) fun _=>by
    show Q4 _ _=Q4 _ _;rw[hg.loadD]
  ·split
   ·exact h.set (fun _ _ _ r=>r) fun _=>by
     show Q4 _ _=Q4 _ _;rw[hg.store]
   ·exact h
 ·exact h
theorem QzH{b:Bd}{t:Int}{k:Kor}{ds es:List Dv}{y z:Bsv}(l:List Inp)(h:L3 FE b.2.2.1 ds es):Qo b (t,k,ds,y) l=Qo b (t,k,es,z) l:=by
 have h1:=Qqm (t:=t) l (s:=(ds,k.2.2.2)) (u:=(es,k.2.2.2)) h rfl;have h0:List.zipWith Qal b.2.2.1 ds=List.zipWith Qal b.2.2.1 es:=h.zip fun c d e r=>r.shw
 unfold Qo;dsimp only;rw[h0];generalize QJ b.2.2.1 t l (ds,k.2.2.2)=g at *;generalize QJ b.2.2.1 t l (es,k.2.2.2)=g' at *;obtain⟨g,n⟩:=g;obtain⟨g',n'⟩:=g';obtain⟨h1,h2⟩:=h1;have h1:L3 FE b.2.2.1 g g':=h1;have h2:n=n':=h2;subst h2;have h3:Qz b g=Qz b g':=QeB (h1.zip fun c d e r=>r.kask) (by rw[←h1.len.1,h1.len.2]);dsimp only;rw[h3];generalize Qk b.2.1 (k.1,k.2.1,k.2.2.1,n) (Qz b g')=a;rw[QDL h1,(QDM (x:=a.2) h1).zip fun c d e r=>r.tick]
theorem Qe8{α:Type}{k:Int}(h:k≤2)(m t p s v o r x:α):sel k m t p s v o r x=if 0≤k then m else x:=by
 unfold sel;by_cases h0:0≤k
 ·rw[if_pos ⟨h0,h⟩,if_pos h0]
 ·rw[if_neg (by omega),if_neg (by omega),if_neg (by omega),if_neg (by omega),if_neg (by omega),if_neg (by omega),if_neg (by omega),if_neg h0]
theorem QDN{c:Cv}(h:c.2.1≤2)(d:Dv)(j:Nat):itF c d j=Q4 c d:=by
 unfold itF Q4;rw[Qe8 h,Qe8 h];rfl
theorem Qwo{c:Cv}(h:c.2.1≤2)(d:Dv):Qh c d=Q4 c d:=by
 unfold Qh Q4;rw[Qe8 h,Qe8 h]
theorem QBc{c:Cv}(h:c.2.1≤2)(d:Dv):Qal c d=0:=by
 unfold Qal;rw[Qe8 h,ite_self]
theorem Qwp{c:Cv}(h:c.2.1≤2)(d:Dv):Qaz c d=false:=by
 unfold Qaz;rw[Qe8 h,ite_self]
theorem QBd{c:Cv}(h:c.2.1≤2)(d:Dv):Qb8 c d=100000:=by
 unfold Qb8;rw[Qe8 h,ite_self]
theorem QJx(c:Cv){d:Dv}(hu:u8s d.2)(j:Nat):Q4 c (itF c d j)=itF c d j:=by
 obtain⟨cn,ck,cb,cs,cd⟩:=c;obtain⟨N,M⟩:=d;rcases kinds ck with rfl|rfl|rfl|rfl|rfl|rfl|rfl|rfl|rfl|hx
 ·exact QS (cn,0,cb,cs,cd) (N,M)
 ·exact QS (cn,1,cb,cs,cd) (N,M)
 ·exact QS (cn,2,cb,cs,cd) (N,M)
 ·show(Qbf (QaX j (Qbf N)),([]:List Int))=(QaX j (Qbf N),[])
  rw[QfF]
 ·show(Qax (Qax N),([]:List Int))=(Qax N,[])
  rw[Qdk]
 ·show(Qa9 (Qq Qab j (Qa9 N)),([]:List Int))=(Qq Qab j (Qa9 N),[])
  rw[Qel]
 ·show(vN (Qq (QaS (vM M)) j (vN N)),vM (vM M))=(Qq (QaS (vM M)) j (vN N),vM M)
  rw[Qgt,QbT]
 ·show(Qah (Qq QaO j (Qah N)),([]:List Int))=(Qq QaO j (Qah N),[])
  rw[Qgu]
 ·exact Qwh (QgV (QED N hu) j)
 ·unfold itF Q4;rw[Qaa hx,Qaa hx]
structure PJ(K j:Nat)(c:Cv)(x g:Dv):Prop where
 f:Q4 c x=itF c g j
 u:u8s g.2
 r:(K:Int)≤Qb8 c g
theorem PJ.shw{K j:Nat}{c:Cv}{x g:Dv}(h:PJ K j c x g)(hj:j≤K):Qal c x=Qal c g:=by
 have h1:=(QiC c g h.u j (by have:=h.r;omega)).1;rw[←(Qcz c x).1,h.f,h1]
theorem PJ.kask{K j:Nat}{c:Cv}{x g:Dv}(h:PJ K j c x g)(hj:j≤K):Qaz c x=Qaz c g:=by
 have h1:=(QiC c g h.u j (by have:=h.r;omega)).2.1;rw[←(Qcz c x).2.1,h.f,h1]
theorem PJ.fe{K j:Nat}{c:Cv}{x g:Dv}(h:PJ K j c x g)(hc:c.2.1≤2):FE c x g:=by
 show Q4 c x=Q4 c g;rw[h.f,QDN hc]
def QdK(b:Bd)(x:Bsv):Bool:=decide (x.1=0)||(!Qrx b x.2.1||decide ((b.2.2.1.getD (fI b x.2.1).toNat (dflt Qe)).2.1≤2))
theorem Qn0{b:Bd}{x:Bsv}(h:QdK b x=true)(hf:0≤Qn b x.2.1):x.1=0∨(b.2.2.1.getD (Qn b x.2.1).toNat (dflt Qe)).2.1≤2:=by
 have e:=(QcU hf).2;unfold QdK Qrx at h;rw[e] at h;simp only[Bool.or_eq_true,decide_eq_true_eq,Bool.not_eq_true',decide_eq_false_iff_not] at h;rcases h with h|h|h
 ·exact .inl h
 ·exact absurd hf h
 ·exact .inr h
theorem Qwq{β:Type}{b:Bd}{x:Bsv}{ds:List Dv}(hp:QdK b x=true){f:Cv→Dv→β}(hf:∀c d e,c.2.1≤2→f c d=f c e):List.zipWith f b.2.2.1 (QaV b ds x)=List.zipWith f b.2.2.1 ds:=by
 unfold QaV;split
 ·rename_i hf0;rcases Qn0 hp hf0 with h0|h0
  ·rw[if_neg (by omega),if_neg (by omega)]
  ·split
   ·exact QnZ fun _ _=>hf _ _ _ h0
   ·split
    ·exact QnZ fun _ _=>hf _ _ _ h0
    ·rfl
 ·rfl
theorem QDO{K j:Nat}{b:Bd}{x:Bsv}{X G:List Dv}(hp:QdK b x=true)(h:L3 (PJ K j) b.2.2.1 X G):QbY b X x=QbY b G x:=by
 unfold QbY;split
 ·rename_i h1;split
  ·rename_i hf0;rcases Qn0 hp hf0 with h0|h0
   ·omega
   ·have:=(QcU hf0).1;exact((h.get (i:=(Qn b x.2.1).toNat) (by omega)).fe h0).loadI _
  ·rfl
 ·rfl
theorem PJ.next{K j:Nat}{c:Cv}{x g:Dv}(h:PJ K j c x g):Qh c x=itF c g (j+1)∧u8s g.2∧(K:Int)≤Qb8 c g:=by
 refine⟨?_,h.u,h.r⟩;rw[←QnY,h.f,Qqg c h.u]
theorem QDP{K j:Nat}{b:Bd}{x:Bsv}{X G:List Dv}(hK:K≤100000)(hp:QdK b x=true)(hc:∀c∈b.2.2.1,cP c)(h:L3 (PJ K j) b.2.2.1 X G) :
 List.zipWith Qh b.2.2.1 (QaV b X x)=List.zipWith (fun c d=>itF c d (j+1)) b.2.2.1 (QaV b G x)∧L3 (PJ K (j+1)) b.2.2.1 (List.zipWith Qh b.2.2.1 (QaV b X x)) (QaV b G x):=by
 have hq:L3 (fun c x g=>Qh c x=itF c g (j+1)∧u8s g.2∧(K:Int)≤Qb8 c g) b.2.2.1 (QaV b X x) (QaV b G x):=by
  unfold QaV;split
  ·rename_i hf0;rcases Qn0 hp hf0 with h0|h0
   ·rw[if_neg (by omega),if_neg (by omega),if_neg (by omega),if_neg (by omega)];exact h.mono fun c d e r=>r.next
   ·have hi:=(QcU hf0).1;have hg:=h.get (i:=(Qn b x.2.1).toNat) (by omega);have hcc:=hc _ (QG (dflt Qe) (show(Qn b x.2.1).toNat<b.2.2.1.length by omega));have fe:=hg.fe h0;split
    ·refine h.set (fun c d e r=>r.next) fun _=>?_
     rw[fe.loadD];refine⟨by rw[Qwo h0,QDN h0],(Qme hcc ⟨hg.u,Nat.le_refl _⟩ _).u,by rw[QBd h0];omega⟩
    ·split
     ·refine h.set (fun c d e r=>r.next) fun _=>?_
      rw[fe.store];refine⟨by rw[Qwo h0,QDN h0],(Qjk hcc ⟨hg.u,Nat.le_refl _⟩ _ _).u,by rw[QBd h0];omega⟩
     ·exact h.mono fun c d e r=>r.next
  ·exact h.mono fun c d e r=>r.next
 refine⟨hq.zip fun c d e r=>r.1,hq.map1 fun c d e r=>⟨?_,r.2.1,r.2.2⟩⟩;rw[r.1];exact QJx c r.2.1 (j+1)
def Qca(b:Bd)(line:Bool)(m:Mach):Mach :=
 (m.1,QI b.2.1 (Qk b.2.1 m.2.1 line).1 (QbY b m.2.2.1 (Qk b.2.1 m.2.1 line).2),QaV b m.2.2.1 (Qk b.2.1 m.2.1 line).2,(Qk b.2.1 m.2.1 line).2.1,(Qk b.2.1 m.2.1 line).2.2.1,QbY b m.2.2.1 (Qk b.2.1 m.2.1 line).2)
def Qr9(b:Bd)(line:Bool)(m:Mach):Bool:=QdK b (Qk b.2.1 m.2.1 line).2
def glK(b:Bd)(line:Bool):Nat→Mach→Mach
 |0,m=>m
 |k+1,m=>Qca b line (glK b line k m)
def glC(b:Bd)(line:Bool):Nat→Mach→Nat
 |0,m=>0
 |n+1,m=>if Qr9 b line m=true then glC b line n (Qca b line m)+1 else 0
theorem QfZ(b:Bd)(line:Bool):∀(k:Nat) (m:Mach),glK b line k (Qca b line m)=glK b line (k+1) m
 |0,m=>rfl
 |k+1,m=>by
  show Qca b line (glK b line k (Qca b line m))=_;rw[QfZ b line k m];rfl
theorem QBe(b:Bd)(line:Bool):∀(n:Nat) (m:Mach),glC b line n m≤n
 |0,m=>Nat.le_refl _
 |n+1,m=>by
  unfold glC;split
  ·have:=QBe b line n (Qca b line m);omega
  ·omega
theorem QBf(b:Bd)(line:Bool):∀(n:Nat) (m:Mach) (j:Nat),j<glC b line n m→Qr9 b line (glK b line j m)=true
 |0,m,j,h=>by cases h
 |n+1,m,j,h=>by
  unfold glC at h;split at h
  ·rename_i hp;cases j with
   |zero=>exact hp
   |succ j =>
    have:=QBf b line n (Qca b line m) j (by omega);rw[QfZ] at this;exact this
  ·cases h
theorem Qwr{b:Bd}{line:Bool}:∀{n:Nat} {m:Mach} {k:Nat},k≤n→(∀j<k,Qr9 b line (glK b line j m)=true)→glC b line n m=k+glC b line (n-k) (glK b line k m)
 |n,m,0,_,_=>by rw[Nat.zero_add];rfl
 |0,m,k+1,h,_=>by omega
 |n+1,m,k+1,h,hp=>by
  have h1:=Qwr (b:=b) (line:=line) (n:=n) (m:=Qca b line m) (k:=k) (by omega) fun j hj=>by
   have:=hp (j+1) (by omega);rw[QfZ];exact this
  show(if Qr9 b line m=true then glC b line n (Qca b line m)+1 else 0)=_;rw[if_pos (show Qr9 b line m=true from hp 0 (by omega)),h1,QfZ,show n+1-(k+1)=n-k by omega];omega
theorem QmK{t:Int}(h:0≤t∧t≤1099511627776):Qcc t=min (t+1) 1099511627776:=by
 unfold Qcc;omega
theorem Qjx{cs:List Cv}{t:Int}:∀{l:List Inp} {s:List Dv×Bool},(∀x∈l,x.1≠t)→QJ cs t l s=s
 | [],s,_=>rfl
 |x::l,s,h=>by
  have e:QdA cs t s x=s:=if_pos (h x (List.mem_cons_self ..));show QJ cs t l (QdA cs t s x)=s;rw[e];exact Qjx fun y hy=>h y (List.mem_cons_of_mem _ hy)
theorem Qhd:∀(cs:List Cv) (ds:List Dv) (n:Int),QcW cs ds n≤n
 | [],ds,n=>Int.le_refl _
 |c::cs,[],n=>Int.le_refl _
 |c::cs,d::ds,n=>by
  have:=Qhd cs ds (imin n (Qb8 c d));show QcW cs ds (imin n (Qb8 c d))≤n;rw[QU] at *;omega
theorem Qws{K:Nat}:∀{cs:List Cv} {ds:List Dv} {n:Int},cs.length=ds.length→(K:Int)≤QcW cs ds n→(∀d∈ds,u8s d.2)→L3 (PJ K 0) cs ds ds
 | [],[],n,_,_,_=>.nil
 | [],d::ds,n,h,_,_=>by simp at h
 |c::cs,[],n,h,_,_=>by simp at h
 |c::cs,d::ds,n,h,h2,hu=>by
  have h2:(K:Int)≤QcW cs ds (imin n (Qb8 c d)):=h2;have h3:=Qhd cs ds (imin n (Qb8 c d));have h4:imin n (Qb8 c d)≤Qb8 c d:=by rw[QU];omega
  exact .cons ⟨(Qhc c d).symm,hu d (List.mem_cons_self ..),by omega⟩ (Qws (by simpa using h) h2 fun d hd=>hu d (List.mem_cons_of_mem _ hd))
structure GL(K:Nat)(b:Bd)(t:Int)(line:Bool)(k:Nat)(r:Mach×List Inp)(g:Mach):Prop where
 p:L3 (PJ K k) b.2.2.1 r.1.2.2.1 g.2.2.1
 o:r.2=[]
 c:r.1.2.1=g.2.1
 s:r.1.2.2.2=g.2.2.2
 t:r.1.1=min (t+k) 1099511627776
 l:Qz b g.2.2.1=line
 e:1≤k→r.1.2.2.1=List.zipWith (fun c d=>itF c d k) b.2.2.1 g.2.2.1
theorem QmL{b:Bd}{m:Mach}{l:List Inp}{K:Nat}(hc:∀c∈b.2.2.1,cP c)(hl:b.2.2.1.length=m.2.2.1.length)(hu:∀d∈m.2.2.1,u8s d.2)(hK:(K:Int)≤QaI b m)(hcalm:∀x∈l,¬(m.1≤x.1∧x.1<m.1+K))(ht:0≤m.1∧m.1≤1099511627776) :
 ∀k,k≤K→(∀j<k,Qr9 b (Qz b m.2.2.1) (glK b (Qz b m.2.2.1) j m)=true)→GL K b m.1 (Qz b m.2.2.1) k (QbE b l k (m,[])) (glK b (Qz b m.2.2.1) k m)
 |0,_,_=>by
  refine⟨Qws hl hK hu,rfl,rfl,rfl,?_,rfl,fun h=>by omega⟩;show m.1=min (m.1+(0:Nat)) 1099511627776;omega
 |k+1,hk,hp=>by
  have hK1:K≤100000:=by have:=Qhd b.2.2.1 m.2.2.1 100000;have:(K:Int)≤QcW b.2.2.1 m.2.2.1 100000:=hK;omega
  have ih:=QmL hc hl hu hK hcalm ht k (by omega) fun j hj=>hp j (by omega)
  have hpk:=hp k (by omega);rw[Qa3];generalize hL:Qz b m.2.2.1=line at *;show GL K b m.1 line (k+1) _ (Qca b line (glK b line k m));generalize QbE b l k (m,[])=r at *;generalize glK b line k m=g at *;obtain⟨⟨rt,rk,rd,rs⟩,ro⟩:=r;obtain⟨gt,gk,gd,gs⟩:=g;obtain⟨i1,i2,i3,i4,i5,i6,i7⟩:=ih;have i1:L3 (PJ K k) b.2.2.1 rd gd:=i1;have i2:ro=[]:=i2;have i3:rk=gk:=i3;have i5:rt=min (m.1+k) 1099511627776:=i5;have i6:Qz b gd=line:=i6;subst i2 i3;have hpk:QdK b (Qk b.2.1 rk line).2=true:=hpk;have hg:QJ b.2.2.1 rt l (rd,rk.2.2.2)=(rd,rk.2.2.2):=Qjx fun x hx he=>hcalm x hx (by omega)
  have hln:Qz b rd=line:=(show Qz b rd=Qz b gd from QeB (i1.zip fun c d e r=>r.kask (by omega)) (by rw[←i1.len.1,i1.len.2])).trans i6
  have hcy:Qo b (rt,rk,rd,rs) l=((Qcc rt,QI b.2.1 (Qk b.2.1 rk line).1 (QbY b rd (Qk b.2.1 rk line).2),List.zipWith Qh b.2.2.1 (QaV b rd (Qk b.2.1 rk line).2),(Qk b.2.1 rk line).2.1,(Qk b.2.1 rk line).2.2.1,QbY b rd (Qk b.2.1 rk line).2),
   Qfe rt b.2.2.1 (List.zipWith Qh b.2.2.1 (QaV b rd (Qk b.2.1 rk line).2)) (List.zipWith Qal b.2.2.1 rd)):=by
   unfold Qo;dsimp only;rw[hg];dsimp only;rw[hln]
  rw[hcy];dsimp only;have hI:=QDO hpk i1;obtain⟨s1,s2⟩:=QDP hK1 hpk hc i1
  have hshw:List.zipWith Qal b.2.2.1 (List.zipWith Qh b.2.2.1 (QaV b rd (Qk b.2.1 rk line).2))=List.zipWith Qal b.2.2.1 rd:=by
   rw[s2.zip fun c d e r=>r.shw hk,Qwq hpk fun c d e h=>by rw[QBc h,QBc h]];exact(i1.zip fun c d e r=>r.shw (by omega)).symm
  refine⟨s2,?_,?_,?_,?_,?_,fun _=>s1⟩
  ·rw[←hshw,QmJ];rfl
  ·show QI _ _ _=QI _ _ _;rw[hI]
  ·show(_,_,_)=(_,_,_)
   rw[hI]
  ·show Qcc rt=_;rw[QmK (by omega)];omega
  ·refine Eq.trans (show Qz b (QaV b gd (Qk b.2.1 rk line).2)=Qz b gd from QeB (Qwq (f:=Qaz) hpk fun c d e h=>by rw[Qwp h,Qwp h]) ?_) i6;rw[←s2.len.2,i1.len.2]
abbrev QL9:Sig:=⟨true,QL0⟩
def Qe9(t:Int):List Inp→Int→Int
 | [],n=>n
 |x::r,n=>Qe9 t r (if x.1≥t then imin n (x.1-t) else n)
def Qa4(m:Mach)(l:List Inp):Int:=Qe9 m.1 l 100000
theorem Qjy{t:Int}{l:List Inp}{k:Nat}(hk:k<l.length)(n:Int):Qe9 t (l.drop k) n=Qe9 t (l.drop (k+1)) (if (l.getD k (dflt Qw)).1≥t then imin n ((l.getD k (dflt Qw)).1-t) else n):=by
 have e2:l.drop k=l.getD k (dflt Qw)::l.drop (k+1):=by rw[List.drop_eq_getElem_cons hk,List.getD_eq_getElem?_getD,List.getElem?_eq_getElem hk];rfl
 rw[e2];rfl
theorem Qwt{t:Int}{l:List Inp}{k:Nat}(hk:¬k<l.length)(n:Int):Qe9 t (l.drop k) n=n:=by
 rw[show l.drop k=[] from List.drop_of_length_le (by omega)];rfl
theorem Qqn(t:Int):∀(l:List Inp) (n:Int),Qe9 t l n≤n
 | [],n=>Int.le_refl _
 |x::r,n=>by
  have:=Qqn t r (if x.1≥t then imin n (x.1-t) else n);show Qe9 t r (if x.1≥t then imin n (x.1-t) else n)≤n;split at this<;>rename_i h
  ·rw[if_pos h];rw[QU] at *;omega
  ·rw[if_neg h];exact this
theorem Qqo{t:Int}:∀{l:List Inp} {n:Int},∀x∈l,x.1≥t→Qe9 t l n≤x.1-t
 | [],n,x,h,_=>by cases h
 |y::r,n,x,h,hx=>by
  show Qe9 t r (if y.1≥t then imin n (y.1-t) else n)≤x.1-t;rcases List.mem_cons.1 h with rfl|h
  ·rw[if_pos hx];have:=Qqn t r (imin n (x.1-t));rw[QU] at *;omega
  ·exact Qqo x h hx
theorem QkW{t:Int}:∀{l:List Inp} {n:Int},0≤n→0≤Qe9 t l n
 | [],n,h=>h
 |y::r,n,h=>by
  show 0≤Qe9 t r (if y.1≥t then imin n (y.1-t) else n);refine QkW ?_;split
  ·rw[QU];omega
  ·exact h
theorem QGI(c:Cv)(d:Dv):0≤Qb8 c d:=by
 obtain⟨cn,ck,cb,cs,cd⟩:=c;obtain⟨N,M⟩:=d;rcases kinds ck with rfl|rfl|rfl|rfl|rfl|rfl|rfl|rfl|rfl|hx
 ·exact(by decide:(0:Int)≤100000)
 ·exact(by decide:(0:Int)≤100000)
 ·exact(by decide:(0:Int)≤100000)
 ·show 0≤Qb6 N;unfold Qb6;split<;>(try dsimp only[tA])<;>omega
 ·exact(by decide:(0:Int)≤100000)
 ·show 0≤Qb7 N;unfold Qb7;split<;>(try dsimp only[s1] at *)<;>omega
 ·show 0≤Qb5 (vM M) (vP N);have h:=QiA (vM M) (vP N) 0 (by omega) 2560 (by omega) fun k h1 h2=>by omega
  exact h
 ·show 0≤min (Qg (vo N 0)) (Qg (vo N 6))
  have hq:∀l,0≤Qg l:=fun l=>by
   unfold Qg;split
   ·repeat' split
    all_goals omega
   ·omega
  have h1:=hq (vo N 0);have h2:=hq (vo N 6);omega
 ·show 0≤Qc6 N;unfold Qc6;split<;>omega
 ·unfold Qb8;rw[Qaa hx];decide
theorem QkX:∀(cs:List Cv) (ds:List Dv) (n:Int),0≤n→0≤QcW cs ds n
 | [],ds,n,h=>h
 |c::cs,[],n,h=>h
 |c::cs,d::ds,n,h=>QkX cs ds _ (by have:=QGI c d;rw[QU];omega)
def QGJ(m:Mach)(l:List Inp):Prop:=(0≤m.1∧m.1≤1099511627776)∧l.length≤4611686018427387904∧∀x∈l,Qam x.1
def QGK:PSpec:=⟨[gM,gIn],fun(m,l,_)=>(some (QGJ m l),I (Qa4 m l),[])⟩
theorem QzI:G0 84 QGK.spec:=by
 have hP:S0 _:=(Qb (T:=tree))
 have hT:=tabs hP Qc;refine QGK.gd hT hP Tryz.func84 fun(m:Mach) (l:List Inp) hq=>?_
 obtain⟨ht,hl,hx⟩:QGJ m l:=hq _ rfl;clear hq;have hE:Qa4 m l=Qe9 m.1 l 100000:=rfl;obtain⟨tm,⟨r,op,at_,nmi⟩,ds,bd,ba,bdt⟩:=m;have ht:0≤tm∧tm≤1099511627776:=ht;have hE:Qa4 (tm,(r,op,at_,nmi),ds,bd,ba,bdt) l=Qe9 tm l 100000:=hE
 repeat' first|(apply Ea;conv=>whnf)|apply Eb|apply Ec<;>intro _|apply Ed<;>intro _|apply Ee<;>intro _|apply Ef hT hP
 refine QH hT hP (A:=Int) l.length (fun i o=>St.mk (E2 ((.cell (.ptr 0 0))::E2 ((I o)::E2 ((.cell (.ro Qw l))::(I l.length)::(I i)::E10 (E5 (E2 []))))))
  [some (.var [.imm (.int .i64 tm),.run .i64 9 r,.imm (.int .i64 op),.imm (.int .i64 at_),.imm (.bool nmi),.ro Qj ds,.imm (.int .i64 bd),.imm (.int .i64 ba),.imm (.int .i64 bdt)])])
  (fun k o=>Qe9 tm (l.drop k) o=Qe9 tm l 100000) 100000 (Le.k [] [0] ?_) rfl fun k o hk hi=>?_
 ·repeat' constructor
 repeat' first|(apply Ea;conv=>whnf)|apply Eb|apply Ec<;>intro _|apply Ed<;>intro _|apply Ee<;>intro _|apply Ef hT hP
 all_goals(try dsimp only[Qf] at *)
 all_goals clear hT hP
 ·rename_i g;have g:(k:Int)<(l.length:Int):=g;show 0≤(k:Int)∧(k:Int)<(l.length:Int);omega
 ·rename_i g g2;have g:(k:Int)<(l.length:Int):=g;have g2:(l.getD k (dflt Qw)).1≥tm:=g2;have g3:=hx _ (QG (dflt Qw) (show k<l.length by omega));unfold Qam at g3;have e:IntKind.i64.wrap ((l.getD k (dflt Qw)).1-tm)=(l.getD k (dflt Qw)).1-tm:=w64 (by omega) (by omega);apply Ex _ [] [0]
  ·repeat' constructor
  ·omega
  ·exact QL (by omega)
  rw[←hi,Qjy (k:=k) (by omega),if_pos g2,←e];rfl
 ·rename_i g g2;have g:(k:Int)<(l.length:Int):=g;have g2:¬(l.getD k (dflt Qw)).1≥tm:=g2;apply Ex _ [] [0]
  ·repeat' constructor
  ·omega
  ·exact QL (by omega)
  rw[←hi,Qjy (k:=k) (by omega),if_neg g2]
 ·rename_i g;have g:¬(k:Int)<(l.length:Int):=g;refine .k [] [] _ rfl (Qd ?_);rw[hE,←hi,Qwt (by omega)]
def QKn:PSpec:=⟨[gBd,QL9],fun(b,x,_)=>(some (bP b x.2.1),.cell (bv (QdK b x)),[])⟩
theorem Qwu:G0 154 QKn.spec:=by
 have hP:S0 _:=Qa Qd7 (Qb (T:=tree));have hT:=tabs hP Qc;refine QKn.gd hT hP Tryz.func154 fun(b:Bd) (x:Bsv) hq=>?_
 have h1:bP b x.2.1:=hq _ rfl;clear hq;obtain⟨bn,⟨un,ui,ur,uq,um⟩,bc,bw⟩:=b;obtain⟨bd,ba,bdt⟩:=x
 repeat' first|(apply Ea;conv=>whnf)|apply Eb|apply Ec<;>intro _|apply Ed<;>intro _|apply Ee<;>intro _|apply Ef hT hP
 all_goals(try dsimp only[Qf] at *)
 all_goals clear hT hP
 ·exact h1
 ·rename_i g;have g:bd=0:=g;subst g;exact .k [] [] _ rfl (Qi rfl)
 ·rename_i g g2;have g2:(!Qrx (bn,(un,ui,ur,uq,um),bc,bw) ba)=true:=g2;refine .k [] [] _ rfl (Qi ?_);show true=(decide (bd=0)||(!Qrx (bn,(un,ui,ur,uq,um),bc,bw) ba||decide ((bc.getD (fI (bn,(un,ui,ur,uq,um),bc,bw) ba).toNat (dflt Qe)).2.1≤2)))
  rw[g2];simp
 ·rename_i g g2;obtain⟨⟨f1,f2⟩,f3⟩:=QeP (b:=(bn,(un,ui,ur,uq,um),bc,bw)) (a:=ba) g2;rw[f3];exact⟨f1,f2⟩
 ·rename_i g g2;have g:¬bd=0:=g;have g2:(!Qrx (bn,(un,ui,ur,uq,um),bc,bw) ba)=false:=g2;refine .k [] [] _ rfl (Qi ?_);show decide ((bc.getD (fI (bn,(un,ui,ur,uq,um),bc,bw) ba).toNat (dflt Qe)).2.1≤2)=(decide (bd=0)||(!Qrx (bn,(un,ui,ur,uq,um),bc,bw) ba||decide ((bc.getD (fI (bn,(un,ui,ur,uq,um),bc,bw) ba).toNat (dflt Qe)).2.1≤2)))
  rw[g2,decide_eq_false g];rfl
structure GlX where
 b:BdX
 m:McX
 n:Int
def QJy:List V1→List Blk→Option GlX:=fun a b=>match a,b with
 | [.agg [.imm (.string bn),.imm (.string un),.ro (.pair (.int .i64) (.pair .str (.pair (.int .i64) (.sl (.pair (.int .i64) (.pair (.int .i64) (.pair (.int .i64) (.sl (.pair (.int .i64) (.pair (.int .i64) (.pair (.int .i64) (.int .i64)))))))))))) ui,.ro (.pair (.int .i64) (.pair (.int .i64) (.pair (.int .i64) (.sl (.pair (.int .i64) (.pair (.int .i64) (.pair (.int .i64) (.int .i64)))))))) ur,.ro (.pair (.int .i64) (.pair (.int .i64) (.pair (.int .i64) (.sl (.pair (.int .i64) (.pair (.int .i64) (.pair (.int .i64) (.int .i64)))))))) uq,.ro (.pair (.int .i64) (.pair (.int .i64) (.pair (.int .i64) (.sl (.pair (.int .i64) (.pair (.int .i64) (.pair (.int .i64) (.int .i64)))))))) um,.ro (.pair .str (.pair (.int .i64) (.pair (.int .i64) (.pair (.int .i64) (.sl (.int .u8)))))) bc,.ro (.pair .str .str) bw],.c (.ptr 0 0),.c (.imm (.int .i64 n))],[.var [.imm (.int .i64 tm),.run .i64 9 r,.imm (.int .i64 op),.imm (.int .i64 at_),.imm (.bool nmi),.own 1,.imm (.int .i64 bd),.imm (.int .i64 ba),.imm (.int .i64 bdt)],.arr (.pair (.sl (.int .i64)) (.sl (.int .u8))) ds]=>some ⟨⟨bn,un,ui,ur,uq,um,bc,bw⟩,⟨tm,r,op,at_,nmi,ds,bd,ba,bdt⟩,n⟩
 |_,_=>none
theorem QDQ{a:List V1}{b:List Blk}{x:GlX}(h:QJy a b=some x):a=[.agg (bdA x.b),.c (.ptr 0 0),I1 x.n]∧b=[.var (mcA x.m),.arr Qj x.m.ds]:=by
 unfold QJy at h;split at h
 ·injection h with h;subst h;exact⟨rfl,rfl⟩
 ·cases h
end Go.Proofs.YtofgbclopbmlcaaGreat

