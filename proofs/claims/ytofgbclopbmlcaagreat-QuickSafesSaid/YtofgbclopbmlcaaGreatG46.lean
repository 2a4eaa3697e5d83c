/- Part 46 of the proof. Conditions: none. -/
import Derived.Test.YtofgbclopbmlcaaGreatG45
namespace Go.Proofs.YtofgbclopbmlcaaGreat
open Go.IntKind (i64)
set_option maxHeartbeats 8000000
open Go.Fw
set_option linter.unusedVariables false
set_option linter.unusedSimpArgs false
set_option linter.constructorNameAsVariable false
set_option maxRecDepth 100000
theorem Qwv{L:Nat}{b:Bd}{m:Mach}{line:Bool}(h:MOk L b m)(ht:Qa0 b.2.1 m.2.1):MOk L b (Qca b line m)∧Qa0 b.2.1 (Qca b line m).2.1:=by
 have h1:=QdB (b:=b) (x:=(Qk b.2.1 m.2.1 line).2) h.L1 h.c h.d;exact⟨⟨h.L1,h.L2,h.c,h1.1,h.l.trans h1.2.symm⟩,ht.1,ht.2.1,Qih _ _ _⟩
theorem Qqp{L:Nat}{b:Bd}{m:Mach}{line:Bool}(h:MOk L b m)(ht:Qa0 b.2.1 m.2.1):∀k,MOk L b (glK b line k m)∧Qa0 b.2.1 (glK b line k m).2.1
 |0=>⟨h,ht⟩
 |k+1=>by
  have ih:=Qqp (line:=line) h ht k;exact Qwv ih.1 ih.2
def glN(b:Bd)(m:Mach)(n:Int):Nat:=glC b (Qz b m.2.2.1) n.toNat m
def glM(b:Bd)(m:Mach)(n:Int):Mach:=glK b (Qz b m.2.2.1) (glN b m n) m
theorem QDR{b:Bd}{line:Bool}{n:Nat}{m:Mach}{k:Nat}(hk:k<n)(h:∀j<k,Qr9 b line (glK b line j m)=true)(h2:Qr9 b line (glK b line k m)=false):glC b line n m=k:=by
 rw[Qwr (by omega) h,show n-k=(n-k-1)+1 by omega];show k+(if Qr9 b line (glK b line k m)=true then glC b line (n-k-1) (Qca b line (glK b line k m))+1 else 0)=k;rw[h2];rfl
theorem QDS{b:Bd}{line:Bool}{n:Nat}{m:Mach}(h:∀j<n,Qr9 b line (glK b line j m)=true):glC b line n m=n:=by
 rw[Qwr (Nat.le_refl n) h,Nat.sub_self];rfl
def QKo(x:GlX):Prop:=(0≤x.n∧x.n≤1000000)∧(bdP x.b.v∧Qa0 x.b.v.2.1 x.m.v.2.1)∧∃L,MOk L x.b.v x.m.v
def mvB(m:Mach):List (Option Blk):=[some (.var [iv .i64 m.1,.run .i64 9 m.2.1.1,iv .i64 m.2.1.2.1,iv .i64 m.2.1.2.2.1,bv m.2.1.2.2.2,.own 1,iv .i64 m.2.2.2.1,iv .i64 m.2.2.2.2.1,iv .i64 m.2.2.2.2.2]),some (.arr Qj m.2.2.1)]
def QKp:WSpec:=⟨GlX,fun x=>[.agg (bdA x.b),.c (.ptr 0 0),I1 x.n],fun x=>[.var (mcA x.m),.arr Qj x.m.ds],QJy,
 fun⟨⟨bn,un,ui,ur,uq,um,bc,bw⟩,⟨tm,r,op,at_,nmi,ds,bd,ba,bdt⟩,n⟩ =>
  (some (QKo ⟨⟨bn,un,ui,ur,uq,um,bc,bw⟩,⟨tm,r,op,at_,nmi,ds,bd,ba,bdt⟩,n⟩),.cell (iv .i64 (glN (bn,(un,ui,ur,uq,um),bc,bw) (tm,(r,op,at_,nmi),ds,bd,ba,bdt) n:Nat)),
    [some (.var [iv .i64 (glM (bn,(un,ui,ur,uq,um),bc,bw) (tm,(r,op,at_,nmi),ds,bd,ba,bdt) n).1,.run .i64 9 (glM (bn,(un,ui,ur,uq,um),bc,bw) (tm,(r,op,at_,nmi),ds,bd,ba,bdt) n).2.1.1,iv .i64 (glM (bn,(un,ui,ur,uq,um),bc,bw) (tm,(r,op,at_,nmi),ds,bd,ba,bdt) n).2.1.2.1,iv .i64 (glM (bn,(un,ui,ur,uq,um),bc,bw) (tm,(r,op,at_,nmi),ds,bd,ba,bdt) n).2.1.2.2.1,bv (glM (bn,(un,ui,ur,uq,um),bc,bw) (tm,(r,op,at_,nmi),ds,bd,ba,bdt) n).2.1.2.2.2,.own 1,iv .i64 (glM (bn,(un,ui,ur,uq,um),bc,bw) (tm,(r,op,at_,nmi),ds,bd,ba,bdt) n).2.2.2.1,iv .i64 (glM (bn,(un,ui,ur,uq,um),bc,bw) (tm,(r,op,at_,nmi),ds,bd,ba,bdt) n).2.2.2.2.1,iv .i64 (glM (bn,(un,ui,ur,uq,um),bc,bw) (tm,(r,op,at_,nmi),ds,bd,ba,bdt) n).2.2.2.2.2]),
     some (.arr Qj (glM (bn,(un,ui,ur,uq,um),bc,bw) (tm,(r,op,at_,nmi),ds,bd,ba,bdt) n).2.2.1)],[])⟩
theorem QGL{p q:Mach}(h:p=q):mvB p=mvB q:=by rw[h]
theorem Qww:G0 83 QKp.spec:=by
 have hP:S0 _:=Qa Qp6 (Qa QAL (Qa Qwu (Qa Qd7 (Qa Qki (Qa Qh3 (Qa Qvi (Qb (T:=tree))))))));have hT:=tabs hP Qc;refine QKp.gd hT hP Tryz.func83 (fun _ _ _ h=>QDQ h) fun(x:GlX) hq=>?_
 obtain⟨⟨bn,un,ui,ur,uq,um,bc,bw⟩,⟨tm,r,op,at_,nmi,ds,bd,ba,bdt⟩,n⟩:=x;obtain⟨hn,⟨hbd,htl⟩,L,hM⟩:QKo ⟨⟨bn,un,ui,ur,uq,um,bc,bw⟩,⟨tm,r,op,at_,nmi,ds,bd,ba,bdt⟩,n⟩:=hq _ rfl;clear hq;have hbd:bdP (bn,(un,ui,ur,uq,um),bc,bw):=hbd;have htl:Qa0 (un,ui,ur,uq,um) (r,op,at_,nmi):=htl;have hM:MOk L (bn,(un,ui,ur,uq,um),bc,bw) (tm,(r,op,at_,nmi),ds,bd,ba,bdt):=hM;obtain⟨hn,hn2⟩:0≤n∧n≤1000000:=hn;have hL:=hM.L2;have hL1:=hM.L1;have h3:Qrz L bc:=hM.c;have hc:∀c∈bc,cP c:=fun c h=>(h3 c h).1
 obtain⟨N,rfl⟩:=Int.eq_ofNat_of_zero_le hn;have hgN:glN (bn,(un,ui,ur,uq,um),bc,bw) (tm,(r,op,at_,nmi),ds,bd,ba,bdt) (N:Int)=glC (bn,(un,ui,ur,uq,um),bc,bw) (Qz (bn,(un,ui,ur,uq,um),bc,bw) ds) N (tm,(r,op,at_,nmi),ds,bd,ba,bdt):=rfl
 have hgM:∀k,glN (bn,(un,ui,ur,uq,um),bc,bw) (tm,(r,op,at_,nmi),ds,bd,ba,bdt) (N:Int)=k→glM (bn,(un,ui,ur,uq,um),bc,bw) (tm,(r,op,at_,nmi),ds,bd,ba,bdt) (N:Int)=glK (bn,(un,ui,ur,uq,um),bc,bw) (Qz (bn,(un,ui,ur,uq,um),bc,bw) ds) k (tm,(r,op,at_,nmi),ds,bd,ba,bdt):=fun k h=>by
  subst h;rfl
 repeat' first|(apply Ea;conv=>whnf)|apply Eb|apply Ec<;>intro _|apply Ed<;>intro _|apply Ee<;>intro _|apply Ef hT hP
 all_goals(try dsimp only[Qf] at *)
 ·exact⟨hbd,fun d h=>(hM.d d h).dP hL⟩
 generalize hln:Qz (bn,(un,ui,ur,uq,um),bc,bw) ds=line at *
 refine QH hT hP (A:=Mach) N (fun i s=>St.mk (E1 ((.cell (.ptr 0 0))::(I N)::(.cell (.ptr 2 0))::E3 ((.cell (bv line))::E10 (E1 ((I N)::(I i)::E40 (E40 (E20 (E5 (E1 [])))))))))
  [some (.var [iv .i64 s.1,.run .i64 9 s.2.1.1,iv .i64 s.2.1.2.1,iv .i64 s.2.1.2.2.1,bv s.2.1.2.2.2,.own 1,iv .i64 s.2.2.2.1,iv .i64 s.2.2.2.2.1,iv .i64 s.2.2.2.2.2]),some (.arr Qj s.2.2.1),
   some (.var [.imm (.string bn),.imm (.string un),.ro QaA ui,.ro Qs ur,.ro Qs uq,.ro Qs um,.ro Qe bc,.ro Qr bw])])
  (fun k s=>s=glK (bn,(un,ui,ur,uq,um),bc,bw) line k (tm,(r,op,at_,nmi),ds,bd,ba,bdt)∧∀j<k,Qr9 (bn,(un,ui,ur,uq,um),bc,bw) line (glK (bn,(un,ui,ur,uq,um),bc,bw) line j (tm,(r,op,at_,nmi),ds,bd,ba,bdt))=true)
  (tm,(r,op,at_,nmi),ds,bd,ba,bdt) (Le.k [] [0,1,2] ?_) ⟨rfl,fun j hj=>by omega⟩ fun k s hk hi=>?_
 ·repeat' constructor
 have hok:MOk L (bn,(un,ui,ur,uq,um),bc,bw) (glK (bn,(un,ui,ur,uq,um),bc,bw) line k (tm,(r,op,at_,nmi),ds,bd,ba,bdt))∧Qa0 (un,ui,ur,uq,um) (glK (bn,(un,ui,ur,uq,um),bc,bw) line k (tm,(r,op,at_,nmi),ds,bd,ba,bdt)).2.1:=Qqp (line:=line) hM htl k;obtain⟨hi,hpl⟩:=hi;rw[←hi] at hok;obtain⟨tm1,⟨r1,op1,at1,nmi1⟩,ds1,bd1,ba1,bdt1⟩:=s;have hd1:∀d∈ds1,dP d:=fun d h=>(hok.1.d d h).dP hL
 have hl1:bc.length=ds1.length:=hok.1.l;have ht1:Qa0 (un,ui,ur,uq,um) (r1,op1,at1,nmi1):=hok.2;have haddr:=Qim (un,ui,ur,uq,um) (r1,op1,at1,nmi1) line;have hst:Qca (bn,(un,ui,ur,uq,um),bc,bw) line (tm1,(r1,op1,at1,nmi1),ds1,bd1,ba1,bdt1)=(tm1,QI (un,ui,ur,uq,um) (Qk (un,ui,ur,uq,um) (r1,op1,at1,nmi1) line).1 (QbY (bn,(un,ui,ur,uq,um),bc,bw) ds1 (Qk (un,ui,ur,uq,um) (r1,op1,at1,nmi1) line).2),QaV (bn,(un,ui,ur,uq,um),bc,bw) ds1 (Qk (un,ui,ur,uq,um) (r1,op1,at1,nmi1) line).2,(Qk (un,ui,ur,uq,um) (r1,op1,at1,nmi1) line).2.1,(Qk (un,ui,ur,uq,um) (r1,op1,at1,nmi1) line).2.2.1,QbY (bn,(un,ui,ur,uq,um),bc,bw) ds1 (Qk (un,ui,ur,uq,um) (r1,op1,at1,nmi1) line).2):=rfl
 have hnx:(!QdK (bn,(un,ui,ur,uq,um),bc,bw) (Qk (un,ui,ur,uq,um) (r1,op1,at1,nmi1) line).2)=false→∀s,s=Qca (bn,(un,ui,ur,uq,um),bc,bw) line (tm1,(r1,op1,at1,nmi1),ds1,bd1,ba1,bdt1)→s=glK (bn,(un,ui,ur,uq,um),bc,bw) line (k+1) (tm,(r,op,at_,nmi),ds,bd,ba,bdt)∧∀j<k+1,Qr9 (bn,(un,ui,ur,uq,um),bc,bw) line (glK (bn,(un,ui,ur,uq,um),bc,bw) line j (tm,(r,op,at_,nmi),ds,bd,ba,bdt))=true:=fun h s e=>by
  refine⟨by rw[e];show _=Qca (bn,(un,ui,ur,uq,um),bc,bw) line (glK (bn,(un,ui,ur,uq,um),bc,bw) line k (tm,(r,op,at_,nmi),ds,bd,ba,bdt));rw[←hi],fun j hj=>?_⟩;by_cases hjk:j<k
  ·exact hpl j hjk
  ·have:j=k:=by omega
   subst this;rw[←hi];show QdK (bn,(un,ui,ur,uq,um),bc,bw) (Qk (un,ui,ur,uq,um) (r1,op1,at1,nmi1) line).2=true;simpa using h
 have hfi:0≤Qn (bn,(un,ui,ur,uq,um),bc,bw) (Qk (un,ui,ur,uq,um) (r1,op1,at1,nmi1) line).2.2.1→Qn (bn,(un,ui,ur,uq,um),bc,bw) (Qk (un,ui,ur,uq,um) (r1,op1,at1,nmi1) line).2.2.1<bc.length∧fI (bn,(un,ui,ur,uq,um),bc,bw) (Qk (un,ui,ur,uq,um) (r1,op1,at1,nmi1) line).2.2.1=Qn (bn,(un,ui,ur,uq,um),bc,bw) (Qk (un,ui,ur,uq,um) (r1,op1,at1,nmi1) line).2.2.1:=fun h=>QcU h
 have hbP:bP (bn,(un,ui,ur,uq,um),bc,bw) (Qk (un,ui,ur,uq,um) (r1,op1,at1,nmi1) line).2.2.1:=⟨by show bc.length≤_;have:=hbd.1.1;have:bc.length*64≤140737488351232:=this;omega,⟨by omega,by omega⟩,fun c h=>⟨(hc c h).1,(hc c h).2.1⟩⟩
 repeat' first|(apply Ea;conv=>whnf)|apply Eb|apply Ec<;>intro _|apply Ed<;>intro _|apply Ee<;>intro _|apply Ef hT hP
 all_goals(try dsimp only[Qf] at *)
 all_goals clear hT hP
 all_goals first
  |exact QnM ht1
  |exact hbP
  |exact Qii ht1 line
  |(have f:=hfi (by assumption)
    show 0≤fI (bn,(un,ui,ur,uq,um),bc,bw) (Qk (un,ui,ur,uq,um) (r1,op1,at1,nmi1) line).2.2.1∧fI (bn,(un,ui,ur,uq,um),bc,bw) (Qk (un,ui,ur,uq,um) (r1,op1,at1,nmi1) line).2.2.1<(bc.length:Int)
    omega)
  |(have f:=hfi (by assumption)
    show 0≤fI (bn,(un,ui,ur,uq,um),bc,bw) (Qk (un,ui,ur,uq,um) (r1,op1,at1,nmi1) line).2.2.1∧fI (bn,(un,ui,ur,uq,um),bc,bw) (Qk (un,ui,ur,uq,um) (r1,op1,at1,nmi1) line).2.2.1<(ds1.length:Int)
    omega)
  |(have f:=hfi (by assumption)
    show(fI (bn,(un,ui,ur,uq,um),bc,bw) (Qk (un,ui,ur,uq,um) (r1,op1,at1,nmi1) line).2.2.1).toNat<ds1.length
    omega)
  |(have f:=hfi (by assumption)
    exact⟨hc _ (QG (dflt Qe) (show(fI (bn,(un,ui,ur,uq,um),bc,bw) (Qk (un,ui,ur,uq,um) (r1,op1,at1,nmi1) line).2.2.1).toNat<bc.length by omega)),hd1 _ (QG (dflt Qj) (show(fI (bn,(un,ui,ur,uq,um),bc,bw) (Qk (un,ui,ur,uq,um) (r1,op1,at1,nmi1) line).2.2.1).toNat<ds1.length by omega))⟩)
  |(exfalso;exact absurd (show(Qk (un,ui,ur,uq,um) (r1,op1,at1,nmi1) line).2.1=1 by assumption) (by assumption))
  |skip
 ·rename_i g1 g2;have g1:(k:Int)<(N:Int):=g1;have g2:(!QdK (bn,(un,ui,ur,uq,um),bc,bw) (Qk (un,ui,ur,uq,um) (r1,op1,at1,nmi1) line).2)=true:=g2
  have e:glN (bn,(un,ui,ur,uq,um),bc,bw) (tm,(r,op,at_,nmi),ds,bd,ba,bdt) (N:Int)=k:=by
   rw[hgN];refine QDR (by omega) hpl ?_;rw[←hi];show QdK (bn,(un,ui,ur,uq,um),bc,bw) (Qk (un,ui,ur,uq,um) (r1,op1,at1,nmi1) line).2=false;simpa using g2
  exact .mk [] [0,1] _ R R R R R (QGL (p:=(tm1,(r1,op1,at1,nmi1),ds1,bd1,ba1,bdt1)) (q:=glM (bn,(un,ui,ur,uq,um),bc,bw) (tm,(r,op,at_,nmi),ds,bd,ba,bdt) (N:Int)) (by rw[hgM k e];exact hi)) (Qd (by rw[e]))
 ·rename_i g1 g2 g3 g4;have g1:(k:Int)<(N:Int):=g1;have g3:(Qk (un,ui,ur,uq,um) (r1,op1,at1,nmi1) line).2.1=1:=g3;have f:=hfi g4;apply Ex (tm1,QI (un,ui,ur,uq,um) (Qk (un,ui,ur,uq,um) (r1,op1,at1,nmi1) line).1 (loadI (bc.getD (fI (bn,(un,ui,ur,uq,um),bc,bw) (Qk (un,ui,ur,uq,um) (r1,op1,at1,nmi1) line).2.2.1).toNat (dflt Qe)) (ds1.getD (fI (bn,(un,ui,ur,uq,um),bc,bw) (Qk (un,ui,ur,uq,um) (r1,op1,at1,nmi1) line).2.2.1).toNat (dflt Qj)) (atF (bn,(un,ui,ur,uq,um),bc,bw) (Qk (un,ui,ur,uq,um) (r1,op1,at1,nmi1) line).2.2.1)),ds1.set (fI (bn,(un,ui,ur,uq,um),bc,bw) (Qk (un,ui,ur,uq,um) (r1,op1,at1,nmi1) line).2.2.1).toNat (loadD (bc.getD (fI (bn,(un,ui,ur,uq,um),bc,bw) (Qk (un,ui,ur,uq,um) (r1,op1,at1,nmi1) line).2.2.1).toNat (dflt Qe)) (ds1.getD (fI (bn,(un,ui,ur,uq,um),bc,bw) (Qk (un,ui,ur,uq,um) (r1,op1,at1,nmi1) line).2.2.1).toNat (dflt Qj)) (atF (bn,(un,ui,ur,uq,um),bc,bw) (Qk (un,ui,ur,uq,um) (r1,op1,at1,nmi1) line).2.2.1)),(Qk (un,ui,ur,uq,um) (r1,op1,at1,nmi1) line).2.1,(Qk (un,ui,ur,uq,um) (r1,op1,at1,nmi1) line).2.2.1,(loadI (bc.getD (fI (bn,(un,ui,ur,uq,um),bc,bw) (Qk (un,ui,ur,uq,um) (r1,op1,at1,nmi1) line).2.2.1).toNat (dflt Qe)) (ds1.getD (fI (bn,(un,ui,ur,uq,um),bc,bw) (Qk (un,ui,ur,uq,um) (r1,op1,at1,nmi1) line).2.2.1).toNat (dflt Qj)) (atF (bn,(un,ui,ur,uq,um),bc,bw) (Qk (un,ui,ur,uq,um) (r1,op1,at1,nmi1) line).2.2.1))) [] [0,1,2]
  ·repeat' constructor
  ·omega
  ·exact QL (by omega)
  refine hnx g2 _ ?_;rw[hst,Qvy (b:=(bn,(un,ui,ur,uq,um),bc,bw)) (x:=(Qk (un,ui,ur,uq,um) (r1,op1,at1,nmi1) line).2) g4 g3,QvA (b:=(bn,(un,ui,ur,uq,um),bc,bw)) (x:=(Qk (un,ui,ur,uq,um) (r1,op1,at1,nmi1) line).2) g4 g3,f.2]
 ·rename_i g1 g2 g3 g4 g5;have g1:(k:Int)<(N:Int):=g1;have g3:(Qk (un,ui,ur,uq,um) (r1,op1,at1,nmi1) line).2.1=1:=g3;apply Ex (tm1,QI (un,ui,ur,uq,um) (Qk (un,ui,ur,uq,um) (r1,op1,at1,nmi1) line).1 255,ds1,(Qk (un,ui,ur,uq,um) (r1,op1,at1,nmi1) line).2.1,(Qk (un,ui,ur,uq,um) (r1,op1,at1,nmi1) line).2.2.1,255) [] [0,1,2]
  ·repeat' constructor
  ·omega
  ·exact QL (by omega)
  refine hnx g2 _ ?_;rw[hst,Qvz (b:=(bn,(un,ui,ur,uq,um),bc,bw)) (x:=(Qk (un,ui,ur,uq,um) (r1,op1,at1,nmi1) line).2) g4 g3,Qjo (b:=(bn,(un,ui,ur,uq,um),bc,bw)) (x:=(Qk (un,ui,ur,uq,um) (r1,op1,at1,nmi1) line).2) g4]
 ·rename_i g1 g2 g3 g4 g5 g6;have g1:(k:Int)<(N:Int):=g1;have g3:¬(Qk (un,ui,ur,uq,um) (r1,op1,at1,nmi1) line).2.1=1:=g3;have g5:(Qk (un,ui,ur,uq,um) (r1,op1,at1,nmi1) line).2.1=2:=g5;have f:=hfi g6;apply Ex (tm1,QI (un,ui,ur,uq,um) (Qk (un,ui,ur,uq,um) (r1,op1,at1,nmi1) line).1 (Qk (un,ui,ur,uq,um) (r1,op1,at1,nmi1) line).2.2.2,ds1.set (fI (bn,(un,ui,ur,uq,um),bc,bw) (Qk (un,ui,ur,uq,um) (r1,op1,at1,nmi1) line).2.2.1).toNat (Qbb (bc.getD (fI (bn,(un,ui,ur,uq,um),bc,bw) (Qk (un,ui,ur,uq,um) (r1,op1,at1,nmi1) line).2.2.1).toNat (dflt Qe)) (ds1.getD (fI (bn,(un,ui,ur,uq,um),bc,bw) (Qk (un,ui,ur,uq,um) (r1,op1,at1,nmi1) line).2.2.1).toNat (dflt Qj)) (atF (bn,(un,ui,ur,uq,um),bc,bw) (Qk (un,ui,ur,uq,um) (r1,op1,at1,nmi1) line).2.2.1) (Qk (un,ui,ur,uq,um) (r1,op1,at1,nmi1) line).2.2.2),(Qk (un,ui,ur,uq,um) (r1,op1,at1,nmi1) line).2.1,(Qk (un,ui,ur,uq,um) (r1,op1,at1,nmi1) line).2.2.1,(Qk (un,ui,ur,uq,um) (r1,op1,at1,nmi1) line).2.2.2) [] [0,1,2]
  ·repeat' constructor
  ·omega
  ·exact QL (by omega)
  refine hnx g2 _ ?_;rw[hst,QfR (b:=(bn,(un,ui,ur,uq,um),bc,bw)) (x:=(Qk (un,ui,ur,uq,um) (r1,op1,at1,nmi1) line).2) g3,QvB (b:=(bn,(un,ui,ur,uq,um),bc,bw)) (x:=(Qk (un,ui,ur,uq,um) (r1,op1,at1,nmi1) line).2) g6 g5,f.2]
 ·rename_i g1 g2 g3 g4 g5 g6;have g1:(k:Int)<(N:Int):=g1;have g3:¬(Qk (un,ui,ur,uq,um) (r1,op1,at1,nmi1) line).2.1=1:=g3;apply Ex (tm1,QI (un,ui,ur,uq,um) (Qk (un,ui,ur,uq,um) (r1,op1,at1,nmi1) line).1 (Qk (un,ui,ur,uq,um) (r1,op1,at1,nmi1) line).2.2.2,ds1,(Qk (un,ui,ur,uq,um) (r1,op1,at1,nmi1) line).2.1,(Qk (un,ui,ur,uq,um) (r1,op1,at1,nmi1) line).2.2.1,(Qk (un,ui,ur,uq,um) (r1,op1,at1,nmi1) line).2.2.2) [] [0,1,2]
  ·repeat' constructor
  ·omega
  ·exact QL (by omega)
  refine hnx g2 _ ?_;rw[hst,QfR (b:=(bn,(un,ui,ur,uq,um),bc,bw)) (x:=(Qk (un,ui,ur,uq,um) (r1,op1,at1,nmi1) line).2) g3,Qjo (b:=(bn,(un,ui,ur,uq,um),bc,bw)) (x:=(Qk (un,ui,ur,uq,um) (r1,op1,at1,nmi1) line).2) g6]
 ·rename_i g1 g2 g3 g4 g5;have g1:(k:Int)<(N:Int):=g1;have g3:¬(Qk (un,ui,ur,uq,um) (r1,op1,at1,nmi1) line).2.1=1:=g3;have g5:¬(Qk (un,ui,ur,uq,um) (r1,op1,at1,nmi1) line).2.1=2:=g5;apply Ex (tm1,QI (un,ui,ur,uq,um) (Qk (un,ui,ur,uq,um) (r1,op1,at1,nmi1) line).1 (Qk (un,ui,ur,uq,um) (r1,op1,at1,nmi1) line).2.2.2,ds1,(Qk (un,ui,ur,uq,um) (r1,op1,at1,nmi1) line).2.1,(Qk (un,ui,ur,uq,um) (r1,op1,at1,nmi1) line).2.2.1,(Qk (un,ui,ur,uq,um) (r1,op1,at1,nmi1) line).2.2.2) [] [0,1,2]
  ·repeat' constructor
  ·omega
  ·exact QL (by omega)
  refine hnx g2 _ ?_;rw[hst,QfR (b:=(bn,(un,ui,ur,uq,um),bc,bw)) (x:=(Qk (un,ui,ur,uq,um) (r1,op1,at1,nmi1) line).2) g3,QvC (b:=(bn,(un,ui,ur,uq,um),bc,bw)) (x:=(Qk (un,ui,ur,uq,um) (r1,op1,at1,nmi1) line).2) g3 g5]
 ·rename_i g1;have g1:¬(k:Int)<(N:Int):=g1;have ek:k=N:=by omega
  subst ek;have e:glN (bn,(un,ui,ur,uq,um),bc,bw) (tm,(r,op,at_,nmi),ds,bd,ba,bdt) (k:Int)=k:=by rw[hgN];exact QDS hpl
  exact .mk [] [0,1] _ R R R R R (QGL (p:=(tm1,(r1,op1,at1,nmi1),ds1,bd1,ba1,bdt1)) (q:=glM (bn,(un,ui,ur,uq,um),bc,bw) (tm,(r,op,at_,nmi),ds,bd,ba,bdt) (k:Int)) (by rw[hgM k e];exact hi)) (Qd (by rw[e]))
def qiK(b:Bd)(m:Mach)(l:List Inp)(n:Int):Nat:=glN b m (imin (imin n (QaI b m)) (Qa4 m l))
def qiM(b:Bd)(m:Mach)(l:List Inp)(n:Int):Mach :=
 (imin (m.1+qiK b m l n) 1099511627776,(glM b m (imin (imin n (QaI b m)) (Qa4 m l))).2.1,List.zipWith (fun c d=>Qc9 c d (qiK b m l n)) b.2.2.1 (glM b m (imin (imin n (QaI b m)) (Qa4 m l))).2.2.1,(glM b m (imin (imin n (QaI b m)) (Qa4 m l))).2.2.2)
theorem QkY(b:Bd)(l:List Inp):∀(k:Nat) (s:Mach×List Inp),QbE b l k s=((QbE b l k (s.1,[])).1,s.2++(QbE b l k (s.1,[])).2)
 |0,s=>by show s=(s.1,s.2++[]);rw[List.append_nil]
 |k+1,s=>by
  rw[Qa3,Qa3 b l k (s.1,[]),QkY b l k s];show(_,_++_)=(_,_++(_++_))
  rw[List.append_assoc]
theorem QkZ(b:Bd)(l:List Inp):∀(j k:Nat) (s:Mach×List Inp),QbE b l (j+k) s=QbE b l k (QbE b l j s)
 |0,k,s=>by rw[Nat.zero_add];rfl
 |j+1,k,s=>by rw[show j+1+k=(j+k)+1 by omega];exact QkZ b l j k _
theorem Qwx{b:Bd}{l:List Inp}{m:Mach}(h:0≤m.1∧m.1≤1099511627776):∀k,0≤(QbE b l k (m,[])).1.1∧(QbE b l k (m,[])).1.1≤1099511627776
 |0=>h
 |k+1=>by
  rw[Qa3];show 0≤Qcc _∧Qcc _≤1099511627776;unfold Qcc;omega
structure QiP(b:Bd)(m:Mach)(l:List Inp):Prop where
 c:∀c∈b.2.2.1,cP c
 l:b.2.2.1.length=m.2.2.1.length
 u:∀d∈m.2.2.1,u8s d.2
 t:0≤m.1∧m.1≤1099511627776
theorem QKq{b:Bd}{m:Mach}{l:List Inp}{n:Int}(h:0≤n):(qiK b m l n:Int)≤n∧(qiK b m l n:Int)≤QaI b m∧(qiK b m l n:Int)≤Qa4 m l:=by
 have h1:0≤QaI b m:=QkX _ _ _ (by decide);have h2:0≤Qa4 m l:=QkW (by decide);have h3:=QBe b (Qz b m.2.2.1) (imin (imin n (QaI b m)) (Qa4 m l)).toNat m;have h4:qiK b m l n≤(imin (imin n (QaI b m)) (Qa4 m l)).toNat:=h3;rw[QU,QU] at h4;omega
theorem Qwy{b:Bd}{m:Mach}{l:List Inp}{n:Int}(hn:0≤n)(h:QiP b m l):GL (qiK b m l n) b m.1 (Qz b m.2.2.1) (qiK b m l n) (QbE b l (qiK b m l n) (m,[])) (glM b m (imin (imin n (QaI b m)) (Qa4 m l))):=by
 obtain⟨k1,k2,k3⟩:=QKq (b:=b) (m:=m) (l:=l) hn;refine QmL h.c h.l h.u k2 (fun x hx hh=>?_) h.t (qiK b m l n) (Nat.le_refl _) fun j hj=>QBf _ _ _ _ _ hj
 have:Qa4 m l≤x.1-m.1:=Qqo x hx hh.1;omega
theorem QBg(k:Nat)(cs:List Cv)(ds:List Dv):List.zipWith (fun c d=>Qc9 c d (k:Int)) cs ds=List.zipWith (fun c d=>itF c d k) cs ds:=by
 have e:(fun(c:Cv) (d:Dv)=>Qc9 c d (k:Int))=fun c d=>itF c d k:=by
  funext c d;rw[Qqf,Int.toNat_natCast]
 rw[e]
theorem Qwz{b:Bd}{m:Mach}{l:List Inp}{n:Int}(hn:0≤n)(h:QiP b m l)(hk:1≤qiK b m l n):QbE b l (qiK b m l n) (m,[])=(qiM b m l n,[]):=by
 have g:=Qwy hn h;have e:=g.e hk;rw[←QBg] at e;generalize hr:QbE b l (qiK b m l n) (m,[])=r at *;obtain⟨⟨rt,rk,rd,rs⟩,ro⟩:=r;have h1:ro=[]:=g.o;have h2:rk=_:=g.c;have h3:rs=_:=g.s;have h4:rt=min (m.1+(qiK b m l n:Nat)) 1099511627776:=g.t;have h5:rd=_:=e;subst h1;unfold qiM;rw[QU,←h2,←h3,←h4,←h5]
theorem QDT{b:Bd}{m:Mach}{l:List Inp}{n:Int}(hn:0≤n)(h:QiP b m l):Qo b (qiM b m l n) l=Qo b (QbE b l (qiK b m l n) (m,[])).1 l:=by
 by_cases hk:1≤qiK b m l n
 ·rw[Qwz hn h hk]
 ·have hk:qiK b m l n=0:=by omega
  have g:=Qwy hn h
  have hM:glM b m (imin (imin n (QaI b m)) (Qa4 m l))=m:=by
   have:glM b m (imin (imin n (QaI b m)) (Qa4 m l))=glK b (Qz b m.2.2.1) (qiK b m l n) m:=rfl;rw[this,hk];rfl
  have e:qiM b m l n=(m.1,m.2.1,List.zipWith (fun c d=>Qc9 c d ((0:Nat):Int)) b.2.2.1 m.2.2.1,m.2.2.2):=by
   unfold qiM;rw[hM,hk,QU,show min (m.1+((0:Nat):Int)) 1099511627776=m.1 by have:=h.t;omega]
  rw[e,hk,QBg];obtain⟨mt,mk,md,ms⟩:=m;show Qo b (mt,mk,_,ms) l=Qo b (mt,mk,md,ms) l;refine QzH l ?_;refine(L3.refl (R:=fun c d e=>d=e) h.l fun i hi=>rfl).map1 fun c d e r=>?_
  subst r;show Q4 c (itF c d 0)=Q4 c d;rw[Qhc,QDK]
theorem QDU{b:Bd}{m:Mach}{l:List Inp}{n:Int}(hn:0<n)(h:QiP b m l)(hk:¬(qiK b m l n:Int)=n):QbE b l (qiK b m l n+1) (m,[])=Qo b (qiM b m l n) l:=by
 rw[Qa3,QDT (by omega) h,(Qwy (by omega) h).o];rfl
theorem QwA{c:Cv}(hc:cP c){L:Nat}{d:Dv}(h:OkD L d):GoodD c L (Q4 c d) :=
 Qgm _ (QfM hc h.u) (QM (QuK _)) (QM (Qkp _)) (QM (QCO _)) (QfN (QnC _) (Qd1 h.u) (Nat.le_of_eq (QaN _))) (QM (Qkr _)) (Qg2 (Qks (Qs5 _ _)) h.u h.l) (QM QD7)
theorem QwB{c:Cv}(hc:cP c){L:Nat}{d:Dv}(h:OkD L d)(hL:List.length c.2.2.2.2+70000≤L):∀j,GoodD c L (itF c d j)
 |0=>by rw[Qhc];exact QwA hc h
 |j+1=>by
  rw[←Qqg c h.u j];exact Qh8 hc ((QwB hc h hL j).ok hL)
theorem Qqq(b:Bd)(line:Bool)(m:Mach):∀k,(glK b line k m).1=m.1
 |0=>rfl
 |k+1=>Qqq b line m k
theorem QGM{L:Nat}{b:Bd}{m:Mach}{l:List Inp}{n:Int}(h:MOk L b m)(ht:Qa0 b.2.1 m.2.1):(MOk L b (qiM b m l n)∧Qa0 b.2.1 (qiM b m l n).2.1)∧∀d∈(qiM b m l n).2.2.1,Q0 d.1∧List.length d.2≤L:=by
 obtain⟨h1,h2⟩:=Qqp (line:=Qz b m.2.2.1) h ht (glN b m (imin (imin n (QaI b m)) (Qa4 m l)))
 have hd:∀d∈(qiM b m l n).2.2.1,(Q0 d.1∧u8s d.2)∧List.length d.2≤L:=fun d hd=>by
  have hd:d∈List.zipWith (fun c d=>Qc9 c d ((qiK b m l n:Nat):Int)) b.2.2.1 (glM b m (imin (imin n (QaI b m)) (Qa4 m l))).2.2.1:=hd;obtain⟨c,hc,e,he,rfl⟩:=QkJ hd;have h6:=(h.c c hc).2;have h5:=QwB (h.c c hc).1 (h1.d e he) h6 (qiK b m l n);rw[Qqf];exact⟨⟨h5.n,h5.u⟩,by have:=h5.l;show List.length (itF c e (qiK b m l n)).2≤L;omega⟩
 have hz:(qiM b m l n).2.2.1.length=b.2.2.1.length:=by
  show(List.zipWith (fun c d=>Qc9 c d ((qiK b m l n:Nat):Int)) b.2.2.1 (glM b m (imin (imin n (QaI b m)) (Qa4 m l))).2.2.1).length=_;rw[List.length_zipWith];have:b.2.2.1.length=(glM b m (imin (imin n (QaI b m)) (Qa4 m l))).2.2.1.length:=h1.l;omega
 exact⟨⟨⟨h.L1,h.L2,h.c,fun d h=>⟨(hd d h).1.2,(hd d h).2⟩,hz.symm⟩,h2⟩,fun d h=>⟨(hd d h).1.1,(hd d h).2⟩⟩
theorem QwC{b:Bd}{m:Mach}{l:List Inp}{n:Int}(h:QaQ b m l (imin n 0)=0):Qaw b m l=0∧0≤n∧imin n 0=0:=by
 have h1:Qaw b m l=0:=by
  unfold QaQ at h;split at h
  ·rename_i h1;exact absurd h h1
  ·rename_i h1;simpa using h1
 have h2:¬imin n 0<0:=fun hh=>by
  unfold QaQ at h;rw[if_neg (fun h=>h h1),if_pos hh] at h;cases h
 rw[QU] at h2 ⊢;exact⟨h1,by omega,by omega⟩
theorem QwD{b:Bd}{m:Mach}{l:List Inp}{n:Int}(h:QaQ b m l (imin n 0)≠0):QaQ b m l n=QaQ b m l (imin n 0):=by
 unfold QaQ at h ⊢;by_cases h1:Qaw b m l=0
 ·have a:¬Qaw b m l≠0:=fun hh=>hh h1
  rw[if_neg a] at h;rw[if_neg a,if_neg a];rw[QU] at h ⊢;by_cases h2:n<0
  ·rw[show min n 0=n by omega]
  ·rw[show min n 0=0 by omega] at h;exact absurd rfl h
 ·rw[if_pos h1,if_pos h1]
def QHz(b:Bd)(m:Mach)(l:List Inp):Prop:=(QEa b m l∧∀x∈l,Qam x.1)∧(QaQ b m l 0=0→∃L,MOk L b m∧L≤140737488351232)
def QGN:PSpec:=⟨[gBd,gM,gIn,gi],fun(b,m,l,n,_)=>(some (QHz b m l),.tup [QeI (QcX b m l n).1 0,.c (.own 1),I1 (QaQ b m l n)],[.arr Qj (QcX b m l n).1.2.2.1,.arr Qw (QcX b m l n).2])⟩
theorem QwE{p q:Mach×List Inp}(h:p=q):[some (Blk.arr Qj p.1.2.2.1),some (Blk.arr Qw p.2)]=[some (Blk.arr Qj q.1.2.2.1),some (Blk.arr Qw q.2)]:=by rw[h]
theorem Qn1:G0 32 QGN.spec:=by
 have hP:S0 _:=Qa QnU (Qa Qql (Qa QzI (Qa Qww (Qa Qkf (Qa QmB.eat (Qb (T:=tree)))))));have hT:=tabs hP Qc;refine QGN.gd hT hP Tryz.func32 fun(b:Bd) (m:Mach) (l:List Inp) (n:Int) hq=>?_
 obtain⟨⟨hmr,hli⟩,hLL⟩:QHz b m l:=hq _ rfl;clear hq;have hM1:∀n,QaQ b m l n≠0→QcX b m l n=(QfV,[]):=fun n h=>if_neg h
 have hM2:∀n,QaQ b m l n=0→QcX b m l n=QbE b l n.toNat (m,[]):=fun n h=>if_pos h
 have hE2:Qaw b m l=0→n>100000→QaQ b m l n=2:=fun h h2=>by
  unfold QaQ;rw[if_neg (fun hh=>hh h),if_neg (by omega),if_pos h2]
 have hE3:Qaw b m l=0→0≤n→¬n>100000→QaQ b m l n=0:=fun h h2 h3=>by
  unfold QaQ;rw[if_neg (fun hh=>hh h),if_neg (by omega),if_neg h3]
 have hE0:Qaw b m l=0→QaQ b m l 0=0:=fun h=>by
  unfold QaQ;rw[if_neg (fun hh=>hh h)];rfl
 have hS:=fun h=>Qd9 (b:=b) (m:=m) (l:=l) h
 have hm0:=fun h=>QwC (b:=b) (m:=m) (l:=l) (n:=n) h
 have hm1:=fun h=>QwD (b:=b) (m:=m) (l:=l) (n:=n) h
 have h1:=hmr.1;have h4:=hmr.2.1;obtain⟨bn,⟨un,ui,ur,uq,um⟩,bc,bw⟩:=b;obtain⟨tm,⟨r,op,at_,nmi⟩,ds,bd,ba,bdt⟩:=m
 repeat' first|(apply Ea;conv=>whnf)|apply Eb|apply Ec<;>intro _|apply Ed<;>intro _|apply Ee<;>intro _|apply Ef hT hP
 all_goals(try dsimp only[Qf] at *)
 ·exact hmr
 ·rename_i g1 g2;have g2:n>100000:=g2;have e:=hE2 (hm0 g1).1 g2;have e2:=hM1 n (by rw[e];decide);exact .le (.trans (Le.nilH 2 Qj _ _ R R R) (Le.nil 9 Qw rfl)) (.mk [] [5,6] _ R R R R R (congrArg (fun z:Mach×List Inp=>[some (Blk.arr Qj z.1.2.2.1),some (Blk.arr Qw z.2)]) e2.symm) (Qea (p:=(QfV,[])) e2.symm e.symm))
 ·rename_i g1 g2 g3;exact absurd (show QaQ (bn,(un,ui,ur,uq,um),bc,bw) (tm,(r,op,at_,nmi),ds,bd,ba,bdt) l (imin n 0)=0 from g1) (QbM (x:=QaQ (bn,(un,ui,ur,uq,um),bc,bw) (tm,(r,op,at_,nmi),ds,bd,ba,bdt) l (imin n 0)) g3)
 rotate_left
 ·rename_i g1 g2;have e0:=QbM (x:=QaQ (bn,(un,ui,ur,uq,um),bc,bw) (tm,(r,op,at_,nmi),ds,bd,ba,bdt) l (imin n 0)) g2;have e:=hm1 e0;have e2:=hM1 n (by rw[e];exact e0);exact .le (.trans (Le.nilH 2 Qj _ _ R R R) (Le.nil 9 Qw rfl)) (.mk [] [5,6] _ R R R R R (congrArg (fun z:Mach×List Inp=>[some (Blk.arr Qj z.1.2.2.1),some (Blk.arr Qw z.2)]) e2.symm) (Qea (p:=(QfV,[])) e2.symm e.symm))
 ·rename_i g1 g2;exact absurd (Qap (x:=QaQ (bn,(un,ui,ur,uq,um),bc,bw) (tm,(r,op,at_,nmi),ds,bd,ba,bdt) l (imin n 0)) g2) g1
 rename_i g1 g2 g3;clear g3;obtain⟨hst,hn0,hmin⟩:=hm0 g1;have g2:¬n>100000:=g2;have hR:QcX (bn,(un,ui,ur,uq,um),bc,bw) (tm,(r,op,at_,nmi),ds,bd,ba,bdt) l (imin n 0)=((tm,(r,op,at_,nmi),ds,bd,ba,bdt),[]):=by rw[hM2 _ g1,hmin];rfl
 rw[hR];have he:=hE3 hst hn0 g2;have heM:=hM2 n he;obtain⟨hbE,hlen,htm,hll⟩:=hS hst;have hbl:bc.length≤12:=(Qg9 (b:=(bn,(un,ui,ur,uq,um),bc,bw)) hbE).1;obtain⟨L,hMo,hLs⟩:=hLL (hE0 hst);have ht:=h4 (hE0 hst);obtain⟨N,rfl⟩:=Int.eq_ofNat_of_zero_le hn0;have hbd:=h1.2.2.1
 refine Qai hT hP (X:=Int×Mach×List Inp) (fun(q,s,o)=>St.mk (E2 ((.cell (.ro Qw l))::(I q)::(.cell (.ptr 0 0))::(.cell (.ptr 1 0))::E2 ((.cell (.ptr 2 0))::E2 ((.cell (.own 4))::E40 (E40 (E3 []))))))
  [some (.var [.imm (.string bn),.imm (.string un),.ro QaA ui,.ro Qs ur,.ro Qs uq,.ro Qs um,.ro Qe bc,.ro Qr bw]),
   some (.var [iv .i64 s.1,.run .i64 9 s.2.1.1,iv .i64 s.2.1.2.1,iv .i64 s.2.1.2.2.1,bv s.2.1.2.2.2,.own 3,iv .i64 s.2.2.2.1,iv .i64 s.2.2.2.2.1,iv .i64 s.2.2.2.2.2]),
   some (.var [.imm (.int .i64 0),.run .i64 9 (List.replicate 9 0),.imm (.int .i64 0),.imm (.int .i64 0),.imm (.bool false),.imm (.slice none 0 0),.imm (.int .i64 0),.imm (.int .i64 0),.imm (.int .i64 0)]),some (.arr Qj s.2.2.1),some (.arr Qw o)])
  (fun(q,s,o)=>∃j:Nat,q=(N:Int)-j∧j≤N∧(s,o)=QbE (bn,(un,ui,ur,uq,um),bc,bw) l j ((tm,(r,op,at_,nmi),ds,bd,ba,bdt),[])) (fun(q,_,_)=>q.toNat) ((N:Int),(tm,(r,op,at_,nmi),ds,bd,ba,bdt),[]) (Le.k [] [0,1,2,3,4] ?_) ⟨0,by omega,Nat.zero_le _,rfl⟩ fun(q,s,o) hi=>?_
 ·repeat' constructor
 obtain⟨j,hq,hj,hi⟩:=hi;have hro:=Qe7 (l:=l) hMo ht j;have hti:=Qwx (b:=(bn,(un,ui,ur,uq,um),bc,bw)) (l:=l) (m:=(tm,(r,op,at_,nmi),ds,bd,ba,bdt)) htm j;rw[←hi] at hro hti;obtain⟨hro1,hro2,hro3⟩:MOk L (bn,(un,ui,ur,uq,um),bc,bw) s∧Qa0 (un,ui,ur,uq,um) s.2.1∧o.length≤j*bc.length:=hro;have hti:0≤s.1∧s.1≤1099511627776:=hti;have hQ:QiP (bn,(un,ui,ur,uq,um),bc,bw) s l:=⟨fun c h=>(hro1.c c h).1,hro1.l,fun d h=>(hro1.d d h).u,hti⟩
 have hqk:=QKq (b:=(bn,(un,ui,ur,uq,um),bc,bw)) (m:=s) (l:=l) (n:=q);have hqs:=fun h=>Qwz (b:=(bn,(un,ui,ur,uq,um),bc,bw)) (m:=s) (l:=l) (n:=q) h hQ
 have hqn:=fun h=>QDU (b:=(bn,(un,ui,ur,uq,um),bc,bw)) (m:=s) (l:=l) (n:=q) h hQ
 have hqm:=QGM (l:=l) (n:=q) hro1 hro2;have hgk:=Qqp (line:=Qz (bn,(un,ui,ur,uq,um),bc,bw) s.2.2.1) hro1 hro2 (glN (bn,(un,ui,ur,uq,um),bc,bw) s (imin (imin q (QaI (bn,(un,ui,ur,uq,um),bc,bw) s)) (Qa4 s l)));have hgt:=Qqq (bn,(un,ui,ur,uq,um),bc,bw) (Qz (bn,(un,ui,ur,uq,um),bc,bw) s.2.2.1) s (glN (bn,(un,ui,ur,uq,um),bc,bw) s (imin (imin q (QaI (bn,(un,ui,ur,uq,um),bc,bw) s)) (Qa4 s l)));have hs0:0≤QaI (bn,(un,ui,ur,uq,um),bc,bw) s:=QkX _ _ _ (by decide);have hs1:QaI (bn,(un,ui,ur,uq,um),bc,bw) s≤100000:=Qhd _ _ _;have hs2:0≤Qa4 s l:=QkW (by decide);obtain⟨tm1,⟨r1,op1,at1,nmi1⟩,ds1,bd1,ba1,bdt1⟩:=s;have hgK:MOk L (bn,(un,ui,ur,uq,um),bc,bw) (glM (bn,(un,ui,ur,uq,um),bc,bw) (tm1,(r1,op1,at1,nmi1),ds1,bd1,ba1,bdt1) (imin (imin q (QaI (bn,(un,ui,ur,uq,um),bc,bw) (tm1,(r1,op1,at1,nmi1),ds1,bd1,ba1,bdt1))) (Qa4 (tm1,(r1,op1,at1,nmi1),ds1,bd1,ba1,bdt1) l)))∧Qa0 (un,ui,ur,uq,um) (glM (bn,(un,ui,ur,uq,um),bc,bw) (tm1,(r1,op1,at1,nmi1),ds1,bd1,ba1,bdt1) (imin (imin q (QaI (bn,(un,ui,ur,uq,um),bc,bw) (tm1,(r1,op1,at1,nmi1),ds1,bd1,ba1,bdt1))) (Qa4 (tm1,(r1,op1,at1,nmi1),ds1,bd1,ba1,bdt1) l))).2.1:=hgk;have hgT:(glM (bn,(un,ui,ur,uq,um),bc,bw) (tm1,(r1,op1,at1,nmi1),ds1,bd1,ba1,bdt1) (imin (imin q (QaI (bn,(un,ui,ur,uq,um),bc,bw) (tm1,(r1,op1,at1,nmi1),ds1,bd1,ba1,bdt1))) (Qa4 (tm1,(r1,op1,at1,nmi1),ds1,bd1,ba1,bdt1) l))).1=tm1:=hgt;have hqd:qiM (bn,(un,ui,ur,uq,um),bc,bw) (tm1,(r1,op1,at1,nmi1),ds1,bd1,ba1,bdt1) l q=(imin (tm1+(glN (bn,(un,ui,ur,uq,um),bc,bw) (tm1,(r1,op1,at1,nmi1),ds1,bd1,ba1,bdt1) (imin (imin q (QaI (bn,(un,ui,ur,uq,um),bc,bw) (tm1,(r1,op1,at1,nmi1),ds1,bd1,ba1,bdt1))) (Qa4 (tm1,(r1,op1,at1,nmi1),ds1,bd1,ba1,bdt1) l)):Nat)) 1099511627776,(glM (bn,(un,ui,ur,uq,um),bc,bw) (tm1,(r1,op1,at1,nmi1),ds1,bd1,ba1,bdt1) (imin (imin q (QaI (bn,(un,ui,ur,uq,um),bc,bw) (tm1,(r1,op1,at1,nmi1),ds1,bd1,ba1,bdt1))) (Qa4 (tm1,(r1,op1,at1,nmi1),ds1,bd1,ba1,bdt1) l))).2.1,List.zipWith (fun c d=>Qc9 c d (glN (bn,(un,ui,ur,uq,um),bc,bw) (tm1,(r1,op1,at1,nmi1),ds1,bd1,ba1,bdt1) (imin (imin q (QaI (bn,(un,ui,ur,uq,um),bc,bw) (tm1,(r1,op1,at1,nmi1),ds1,bd1,ba1,bdt1))) (Qa4 (tm1,(r1,op1,at1,nmi1),ds1,bd1,ba1,bdt1) l)):Nat)) bc (glM (bn,(un,ui,ur,uq,um),bc,bw) (tm1,(r1,op1,at1,nmi1),ds1,bd1,ba1,bdt1) (imin (imin q (QaI (bn,(un,ui,ur,uq,um),bc,bw) (tm1,(r1,op1,at1,nmi1),ds1,bd1,ba1,bdt1))) (Qa4 (tm1,(r1,op1,at1,nmi1),ds1,bd1,ba1,bdt1) l))).2.2.1,(glM (bn,(un,ui,ur,uq,um),bc,bw) (tm1,(r1,op1,at1,nmi1),ds1,bd1,ba1,bdt1) (imin (imin q (QaI (bn,(un,ui,ur,uq,um),bc,bw) (tm1,(r1,op1,at1,nmi1),ds1,bd1,ba1,bdt1))) (Qa4 (tm1,(r1,op1,at1,nmi1),ds1,bd1,ba1,bdt1) l))).2.2.2):=rfl;have hqK:qiK (bn,(un,ui,ur,uq,um),bc,bw) (tm1,(r1,op1,at1,nmi1),ds1,bd1,ba1,bdt1) l q=glN (bn,(un,ui,ur,uq,um),bc,bw) (tm1,(r1,op1,at1,nmi1),ds1,bd1,ba1,bdt1) (imin (imin q (QaI (bn,(un,ui,ur,uq,um),bc,bw) (tm1,(r1,op1,at1,nmi1),ds1,bd1,ba1,bdt1))) (Qa4 (tm1,(r1,op1,at1,nmi1),ds1,bd1,ba1,bdt1) l)):=rfl;rw[hqK] at hqk hqs hqn
 repeat' first|(apply Ea;conv=>whnf)|apply Eb|apply Ec<;>intro _|apply Ed<;>intro _|apply Ee<;>intro _|apply Ef hT hP
 all_goals(try dsimp only[Qf] at *)
 ·exact⟨hbd.1.1,hQ.c,fun d h=>(hro1.d d h).dP hro1.L2⟩
 ·exact⟨hti,h1.2.1,hli⟩
 ·rename_i g;have g:q>0:=g;refine⟨⟨?_,?_⟩,⟨hbd,hro2⟩,L,hro1⟩
  ·show 0≤imin (imin q (QaI (bn,(un,ui,ur,uq,um),bc,bw) (tm1,(r1,op1,at1,nmi1),ds1,bd1,ba1,bdt1))) (Qa4 (tm1,(r1,op1,at1,nmi1),ds1,bd1,ba1,bdt1) l);rw[QU,QU];omega
  ·show imin (imin q (QaI (bn,(un,ui,ur,uq,um),bc,bw) (tm1,(r1,op1,at1,nmi1),ds1,bd1,ba1,bdt1))) (Qa4 (tm1,(r1,op1,at1,nmi1),ds1,bd1,ba1,bdt1) l)≤1000000;rw[QU,QU];omega
 rotate_left
 ·rename_i g;have g:¬q>0:=g;have ej:j=N:=by omega
  subst ej;have e3:((tm1,(r1,op1,at1,nmi1),ds1,bd1,ba1,bdt1),o)=QcX (bn,(un,ui,ur,uq,um),bc,bw) (tm,(r,op,at_,nmi),ds,bd,ba,bdt) l (j:Int):=by rw[heM];exact hi
  exact .mk [] [3,4] _ R R R R R (QwE e3) (Qea (p:=((tm1,(r1,op1,at1,nmi1),ds1,bd1,ba1,bdt1),o)) e3 he.symm)
 rename_i g;have g:q>0:=g;have hqk:=hqk (by omega);have hqs:=hqs (by omega);have hqn:=hqn g;generalize hK:glN (bn,(un,ui,ur,uq,um),bc,bw) (tm1,(r1,op1,at1,nmi1),ds1,bd1,ba1,bdt1) (imin (imin q (QaI (bn,(un,ui,ur,uq,um),bc,bw) (tm1,(r1,op1,at1,nmi1),ds1,bd1,ba1,bdt1))) (Qa4 (tm1,(r1,op1,at1,nmi1),ds1,bd1,ba1,bdt1) l))=K at *;generalize hG:glM (bn,(un,ui,ur,uq,um),bc,bw) (tm1,(r1,op1,at1,nmi1),ds1,bd1,ba1,bdt1) (imin (imin q (QaI (bn,(un,ui,ur,uq,um),bc,bw) (tm1,(r1,op1,at1,nmi1),ds1,bd1,ba1,bdt1))) (Qa4 (tm1,(r1,op1,at1,nmi1),ds1,bd1,ba1,bdt1) l))=G at *;obtain⟨gt,⟨gr,gop,gat,gnmi⟩,gd,gs1,gs2,gs3⟩:=G;obtain rfl:gt=tm1:=hgT;have hgl:bc.length=gd.length:=hgK.1.l;have hgd:∀d∈gd,dP d:=fun d h=>(hgK.1.d d h).dP hro1.L2
 have hKb:(K:Int)≤100000:=by omega
 refine QH hT hP (A:=List Dv) bc.length (fun i d=>St.mk (E2 ((.cell (.ro Qw l))::(I q)::(.cell (.ptr 0 0))::(.cell (.ptr 1 0))::E2 ((.cell (.ptr 2 0))::E2 ((.cell (.own 4))::E1 ((I K)::E20 (E10 (E5 (E1 ((.cell (.ro Qe bc))::(I bc.length)::(I i)::E40 (E2 []))))))))))
  [some (.var [.imm (.string bn),.imm (.string un),.ro QaA ui,.ro Qs ur,.ro Qs uq,.ro Qs um,.ro Qe bc,.ro Qr bw]),
   some (.var [iv .i64 gt,.run .i64 9 gr,iv .i64 gop,iv .i64 gat,bv gnmi,.own 3,iv .i64 gs1,iv .i64 gs2,iv .i64 gs3]),
   some (.var [.imm (.int .i64 0),.run .i64 9 (List.replicate 9 0),.imm (.int .i64 0),.imm (.int .i64 0),.imm (.bool false),.imm (.slice none 0 0),.imm (.int .i64 0),.imm (.int .i64 0),.imm (.int .i64 0)]),some (.arr Qj d),some (.arr Qw o)])
  (fun k d=>d=QdI (fun c d=>Qc9 c d K) bc gd k) gd (Le.k [] [0,1,2,3,4] ?_) (QfQ _ _ _).symm fun k d hk hdi=>?_
 ·repeat' constructor
 have hdl:d.length=bc.length:=by rw[hdi,QbQ hgl hk];exact hgl.symm
 have hdg:k<bc.length→d.getD k (dflt Qj)=gd.getD k (dflt Qj):=fun h=>by rw[hdi];exact QbR hgl h _
 have hds:k<bc.length→d.set k (Qc9 (bc.getD k (dflt Qe)) (gd.getD k (dflt Qj)) K)=QdI (fun c d=>Qc9 c d K) bc gd (k+1):=fun h=>by rw[hdi];exact Qbk (f:=fun c d=>Qc9 c d K) hgl h _ _
 have hw1:i64.wrap (gt+(K:Int))=gt+K:=w64 (by omega) (by omega);have hw2:i64.wrap (q-(K:Int))=q-K:=w64 (by omega) (by omega)
 have hend:¬k<bc.length→((imin (i64.wrap (gt+(K:Int))) 1099511627776,(gr,gop,gat,gnmi),d,gs1,gs2,gs3):Mach)=qiM (bn,(un,ui,ur,uq,um),bc,bw) (gt,(r1,op1,at1,nmi1),ds1,bd1,ba1,bdt1) l q:=fun h=>by
  rw[hqd,hw1,hdi,QbC hgl (by omega)]
 repeat' first|(apply Ea;conv=>whnf)|apply Eb|apply Ec<;>intro _|apply Ed<;>intro _|apply Ee<;>intro _|apply Ef hT hP
 all_goals(try dsimp only[Qf] at *)
 ·rename_i g;have g:(k:Int)<(bc.length:Int):=g;show 0≤(k:Int)∧(k:Int)<(bc.length:Int);omega
 ·rename_i g;have g:(k:Int)<(bc.length:Int):=g;show 0≤(k:Int)∧(k:Int)<(d.length:Int);omega
 ·rename_i g;have g:(k:Int)<(bc.length:Int):=g;show k<d.length;omega
 ·rename_i g;have g:(k:Int)<(bc.length:Int):=g;refine⟨hQ.c _ (QG (dflt Qe) (show k<bc.length by omega)),?_,by show(K:Int)≤1000000;omega⟩;show dP (d.getD k (dflt Qj));rw[hdg (by omega)];exact hgd _ (QG (dflt Qj) (show k<gd.length by omega))
 ·rename_i g;have g:(k:Int)<(bc.length:Int):=g;show 0≤(k:Int)∧(k:Int)<(d.length:Int);omega
 ·rename_i g;have g:(k:Int)<(bc.length:Int):=g;show k<d.length;omega
 ·rename_i g;have g:(k:Int)<(bc.length:Int):=g;have hds:=hds (by omega);rw[←hdg (by omega)] at hds;apply Ex _ [] [0,1,2,3,4]
  ·repeat' constructor
  ·omega
  ·exact QL (by omega)
  exact hds
 ·rename_i g2 g3;have g2:¬(k:Int)<(bc.length:Int):=g2;have g3:i64.wrap (q-(K:Int))=0:=g3;rw[hw2] at g3;have hend:=hend (by omega);have hqs:=hqs (by omega)
  have e3:((imin (i64.wrap (gt+(K:Int))) 1099511627776,(gr,gop,gat,gnmi),d,gs1,gs2,gs3),o)=QcX (bn,(un,ui,ur,uq,um),bc,bw) (tm,(r,op,at_,nmi),ds,bd,ba,bdt) l (N:Int):=by
   rw[heM,hend,show(N:Int).toNat=j+K by omega,QkZ,←hi,QkY,hqs,List.append_nil]
  exact .mk [] [3,4] _ R R R R R (QwE e3) (Qea (p:=((imin (i64.wrap (gt+(K:Int))) 1099511627776,(gr,gop,gat,gnmi),d,gs1,gs2,gs3),o)) e3 he.symm)
 ·rename_i g2 g3;have g2:¬(k:Int)<(bc.length:Int):=g2;rw[hend (by omega)];have hb2:(qiM (bn,(un,ui,ur,uq,um),bc,bw) (gt,(r1,op1,at1,nmi1),ds1,bd1,ba1,bdt1) l q).2.2.1.length≤12:=by rw[←hqm.1.1.l];exact hbl
  refine⟨⟨⟨by omega,fun x hx=>?_⟩,h1.2.1,hbd⟩,hqm.1.2,fun _=>⟨L,hqm.1.1⟩⟩;have hx:=hqm.2 x hx;have:=hx.1.2;constructor<;>omega
 ·rename_i g2 g3;have g2:¬(k:Int)<(bc.length:Int):=g2;rw[hend (by omega)]
  have hcl:(QgI (bn,(un,ui,ur,uq,um),bc,bw) (qiM (bn,(un,ui,ur,uq,um),bc,bw) (gt,(r1,op1,at1,nmi1),ds1,bd1,ba1,bdt1) l q) l).2.length≤bc.length:=by
   unfold QgI;split
   ·exact Qbr _ _ _ _
   ·exact Nat.zero_le _
  have h7:j*bc.length≤100000*12:=Nat.mul_le_mul (by omega) hbl;omega
 ·rename_i g2 g3;have g2:¬(k:Int)<(bc.length:Int):=g2;have g3:¬i64.wrap (q-(K:Int))=0:=g3;rw[hw2] at g3;have hend:=hend (by omega);have hw3:i64.wrap (i64.wrap (q-(K:Int))-1)=q-K-1:=by rw[hw2];exact w64 (by omega) (by omega)
  have hcy:QgI (bn,(un,ui,ur,uq,um),bc,bw) (qiM (bn,(un,ui,ur,uq,um),bc,bw) (gt,(r1,op1,at1,nmi1),ds1,bd1,ba1,bdt1) l q) l=Qo (bn,(un,ui,ur,uq,um),bc,bw) (qiM (bn,(un,ui,ur,uq,um),bc,bw) (gt,(r1,op1,at1,nmi1),ds1,bd1,ba1,bdt1) l q) l:=if_pos hqm.1.1.l.symm
  have hrun:((QgI (bn,(un,ui,ur,uq,um),bc,bw) (imin (i64.wrap (gt+(K:Int))) 1099511627776,(gr,gop,gat,gnmi),d,gs1,gs2,gs3) l).1,o++(QgI (bn,(un,ui,ur,uq,um),bc,bw) (imin (i64.wrap (gt+(K:Int))) 1099511627776,(gr,gop,gat,gnmi),d,gs1,gs2,gs3) l).2)=QbE (bn,(un,ui,ur,uq,um),bc,bw) l (j+(K+1)) ((tm,(r,op,at_,nmi),ds,bd,ba,bdt),[]):=by
   rw[hend,hcy,QkZ,←hi,QkY,hqn (by omega)]
  apply Exists.intro (_,(QgI (bn,(un,ui,ur,uq,um),bc,bw) (imin (i64.wrap (gt+(K:Int))) 1099511627776,(gr,gop,gat,gnmi),d,gs1,gs2,gs3) l).1,o++(QgI (bn,(un,ui,ur,uq,um),bc,bw) (imin (i64.wrap (gt+(K:Int))) 1099511627776,(gr,gop,gat,gnmi),d,gs1,gs2,gs3) l).2);refine And.intro ?_ (And.intro ?_ (Le.k [] [0,1,2,5,7] ?hh))
  case hh=>repeat' constructor
  ·refine⟨j+(K+1),?_,by omega,hrun⟩;show i64.wrap (i64.wrap (q-(K:Int))-1)=(N:Int)-((j+(K+1):Nat):Int);rw[hw3];omega
  ·show(i64.wrap (i64.wrap (q-(K:Int))-1)).toNat<q.toNat;rw[hw3];omega
end Go.Proofs.YtofgbclopbmlcaaGreat

