/- Part 45 of the proof. Conditions: none. -/
import Derived.Test.YtofgbclopbmlcaaGreatG43
import Derived.Test.YtofgbclopbmlcaaGreatG38
import Derived.Test.YtofgbclopbmlcaaGreatG22
import Derived.Test.YtofgbclopbmlcaaGreatG44
namespace Go.Proofs.YtofgbclopbmlcaaGreat
open Go.IntKind (i64)
set_option maxHeartbeats 8000000
open Go.Fw
set_option linter.unusedVariables false
set_option linter.unusedSimpArgs false
set_option linter.constructorNameAsVariable false
set_option maxRecDepth 100000
theorem QwG{L:Nat}{b:Bd}{m:Mach}{line:Bool}(h:MOk L b m)(ht:Qbc b.2.1 m.2.1):MOk L b (Qcd b line m)∧Qbc b.2.1 (Qcd b line m).2.1:=by
 have h1:=QdI (b:=b) (x:=(Qk b.2.1 m.2.1 line).2) h.L1 h.c h.d;exact⟨⟨h.L1,h.L2,h.c,h1.1,h.l.trans h1.2.symm⟩,ht.1,ht.2.1,Qiw _ _ _⟩
theorem QqJ{L:Nat}{b:Bd}{m:Mach}{line:Bool}(h:MOk L b m)(ht:Qbc b.2.1 m.2.1):∀k,MOk L b (glK b line k m)∧Qbc b.2.1 (glK b line k m).2.1
 |0=>⟨h,ht⟩
 |k+1=>by
  have ih:=QqJ (line:=line) h ht k;exact QwG ih.1 ih.2
def glN(b:Bd)(m:Mach)(n:Int):Nat:=glC b (QC b m.2.2.1) n.toNat m
def glM(b:Bd)(m:Mach)(n:Int):Mach:=glK b (QC b m.2.2.1) (glN b m n) m
theorem QEN{b:Bd}{line:Bool}{n:Nat}{m:Mach}{k:Nat}(hk:k<n)(h:∀j<k,QsE b line (glK b line j m)=true)(h2:QsE b line (glK b line k m)=false):glC b line n m=k:=by
 rw[QwC (by omega) h,show n-k=(n-k-1)+1 by omega];show k+(if QsE b line (glK b line k m)=true then glC b line (n-k-1) (Qcd b line (glK b line k m))+1 else 0)=k;rw[h2];rfl
theorem QEO{b:Bd}{line:Bool}{n:Nat}{m:Mach}(h:∀j<n,QsE b line (glK b line j m)=true):glC b line n m=n:=by
 rw[QwC (YE n) h,Jk];rfl
def QMh(x:GlX):Prop:=(0≤x.n∧x.n≤1000000)∧(bdP x.b.v∧Qbc x.b.v.2.1 x.m.v.2.1)∧∃L,MOk L x.b.v x.m.v
def mvB(m:Mach):List (Option Blk):=[some (.var [iv .i64 m.1,.run .i64 9 m.2.1.1,iv .i64 m.2.1.2.1,iv .i64 m.2.1.2.2.1,bv m.2.1.2.2.2,.own 1,iv .i64 m.2.2.2.1,iv .i64 m.2.2.2.2.1,iv .i64 m.2.2.2.2.2]),some (.arr Qh m.2.2.1)]
def QMi:WSpec:=⟨GlX,fun x=>[.agg (bdA x.b),.c (.ptr 0 0),I1 x.n],fun x=>[.var (mcA x.m),.arr Qh x.m.ds],QK7,
 fun⟨⟨B,t,w,a,g,u,y,z⟩,⟨tm,r,op,at_,C,ds,bd,E,D⟩,n⟩ =>
  (some (QMh ⟨⟨B,t,w,a,g,u,y,z⟩,⟨tm,r,op,at_,C,ds,bd,E,D⟩,n⟩),.cell (iv .i64 (glN (B,(t,w,a,g,u),y,z) (tm,(r,op,at_,C),ds,bd,E,D) n:Nat)),
    [some (.var [iv .i64 (glM (B,(t,w,a,g,u),y,z) (tm,(r,op,at_,C),ds,bd,E,D) n).1,.run .i64 9 (glM (B,(t,w,a,g,u),y,z) (tm,(r,op,at_,C),ds,bd,E,D) n).2.1.1,iv .i64 (glM (B,(t,w,a,g,u),y,z) (tm,(r,op,at_,C),ds,bd,E,D) n).2.1.2.1,iv .i64 (glM (B,(t,w,a,g,u),y,z) (tm,(r,op,at_,C),ds,bd,E,D) n).2.1.2.2.1,bv (glM (B,(t,w,a,g,u),y,z) (tm,(r,op,at_,C),ds,bd,E,D) n).2.1.2.2.2,.own 1,iv .i64 (glM (B,(t,w,a,g,u),y,z) (tm,(r,op,at_,C),ds,bd,E,D) n).2.2.2.1,iv .i64 (glM (B,(t,w,a,g,u),y,z) (tm,(r,op,at_,C),ds,bd,E,D) n).2.2.2.2.1,iv .i64 (glM (B,(t,w,a,g,u),y,z) (tm,(r,op,at_,C),ds,bd,E,D) n).2.2.2.2.2]),
     some (.arr Qh (glM (B,(t,w,a,g,u),y,z) (tm,(r,op,at_,C),ds,bd,E,D) n).2.2.1)],[])⟩
theorem QH2{p q:Mach}(h:p=q):mvB p=mvB q:=by rw[h]
theorem QwH:G0 83 QMi.spec:=by
 have Y:S0 _:=Qa Qqv (Qa QBy (Qa QwF (Qa Qef (Qa Qky (Qa Qii (Qa Qvy (Qb (T:=tree))))))));have hT:=tabs Y Qc;refine QMi.gd hT Y Tryz.func83 (fun _ _ _ h=>QEM h) fun(x:GlX) hq=>?_
 obtain⟨⟨B,t,w,a,g,u,y,z⟩,⟨tm,r,op,at_,C,ds,bd,E,D⟩,n⟩:=x;obtain⟨hn,⟨P,V⟩,L,X⟩:QMh ⟨⟨B,t,w,a,g,u,y,z⟩,⟨tm,r,op,at_,C,ds,bd,E,D⟩,n⟩:=hq _ rfl;clear hq;have P:bdP (B,(t,w,a,g,u),y,z):=P;have V:Qbc (t,w,a,g,u) (r,op,at_,C):=V;have X:MOk L (B,(t,w,a,g,u),y,z) (tm,(r,op,at_,C),ds,bd,E,D):=X;obtain⟨hn,hn2⟩:0≤n∧n≤1000000:=hn;have hL:=X.L2;have hL1:=X.L1;have h3:QrZ L y:=X.c;have hc:∀c∈y,cP c:=fun c h=>(h3 c h).1
 obtain⟨N,rfl⟩:=Yz hn;have hgN:glN (B,(t,w,a,g,u),y,z) (tm,(r,op,at_,C),ds,bd,E,D) (N:Int)=glC (B,(t,w,a,g,u),y,z) (QC (B,(t,w,a,g,u),y,z) ds) N (tm,(r,op,at_,C),ds,bd,E,D):=rfl
 have hgM:∀k,glN (B,(t,w,a,g,u),y,z) (tm,(r,op,at_,C),ds,bd,E,D) (N:Int)=k→glM (B,(t,w,a,g,u),y,z) (tm,(r,op,at_,C),ds,bd,E,D) (N:Int)=glK (B,(t,w,a,g,u),y,z) (QC (B,(t,w,a,g,u),y,z) ds) k (tm,(r,op,at_,C),ds,bd,E,D):=fun k h=>by
  subst h;rfl
 repeat' first|(apply Ea;conv=>whnf)|apply Eb|apply Ec|apply Ed|apply Ee|(apply Ei;intro _)|apply Ef hT Y
 all_goals(try dsimp only[Qf] at *)
 ·exact⟨P,fun d h=>(X.d d h).dP hL⟩
 generalize hln:QC (B,(t,w,a,g,u),y,z) ds=line at *
 refine QA hT Y (A:=Mach) N (fun i s=>St.mk (E1 ((.cell (.ptr 0 0))::(I N)::(.cell (.ptr 2 0))::E3 ((.cell (bv line))::E10 (E1 ((I N)::(I i)::E40 (E40 (E20 (E5 (E1 [])))))))))
  [some (.var [iv .i64 s.1,.run .i64 9 s.2.1.1,iv .i64 s.2.1.2.1,iv .i64 s.2.1.2.2.1,bv s.2.1.2.2.2,.own 1,iv .i64 s.2.2.2.1,iv .i64 s.2.2.2.2.1,iv .i64 s.2.2.2.2.2]),some (.arr Qh s.2.2.1),
   some (.var [.imm (.string B),.imm (.string t),.ro Qap w,.ro Qp a,.ro Qp g,.ro Qp u,.ro Qe y,.ro Qo z])])
  (fun k s=>s=glK (B,(t,w,a,g,u),y,z) line k (tm,(r,op,at_,C),ds,bd,E,D)∧∀j<k,QsE (B,(t,w,a,g,u),y,z) line (glK (B,(t,w,a,g,u),y,z) line j (tm,(r,op,at_,C),ds,bd,E,D))=true)
  (tm,(r,op,at_,C),ds,bd,E,D) (Le.k [] [0,1,2] ?_) ⟨rfl,fun j hj=>by omega⟩ fun k s hk U=>?_
 ·repeat' constructor
 have O:MOk L (B,(t,w,a,g,u),y,z) (glK (B,(t,w,a,g,u),y,z) line k (tm,(r,op,at_,C),ds,bd,E,D))∧Qbc (t,w,a,g,u) (glK (B,(t,w,a,g,u),y,z) line k (tm,(r,op,at_,C),ds,bd,E,D)).2.1:=QqJ (line:=line) X V k;obtain⟨U,W⟩:=U;rw[←U] at O;obtain⟨tm1,⟨r1,op1,at1,nmi1⟩,ds1,bd1,ba1,bdt1⟩:=s;have hd1:∀d∈ds1,dP d:=fun d h=>(O.1.d d h).dP hL
 have hl1:y.length=ds1.length:=O.1.l;have Z:Qbc (t,w,a,g,u) (r1,op1,at1,nmi1):=O.2;have haddr:=QiG (t,w,a,g,u) (r1,op1,at1,nmi1) line;have K:Qcd (B,(t,w,a,g,u),y,z) line (tm1,(r1,op1,at1,nmi1),ds1,bd1,ba1,bdt1)=(tm1,QL (t,w,a,g,u) (Qk (t,w,a,g,u) (r1,op1,at1,nmi1) line).1 (Qb4 (B,(t,w,a,g,u),y,z) ds1 (Qk (t,w,a,g,u) (r1,op1,at1,nmi1) line).2),QaX (B,(t,w,a,g,u),y,z) ds1 (Qk (t,w,a,g,u) (r1,op1,at1,nmi1) line).2,(Qk (t,w,a,g,u) (r1,op1,at1,nmi1) line).2.1,(Qk (t,w,a,g,u) (r1,op1,at1,nmi1) line).2.2.1,Qb4 (B,(t,w,a,g,u),y,z) ds1 (Qk (t,w,a,g,u) (r1,op1,at1,nmi1) line).2):=rfl
 have M:(!QdR (B,(t,w,a,g,u),y,z) (Qk (t,w,a,g,u) (r1,op1,at1,nmi1) line).2)=false→∀s,s=Qcd (B,(t,w,a,g,u),y,z) line (tm1,(r1,op1,at1,nmi1),ds1,bd1,ba1,bdt1)→s=glK (B,(t,w,a,g,u),y,z) line (k+1) (tm,(r,op,at_,C),ds,bd,E,D)∧∀j<k+1,QsE (B,(t,w,a,g,u),y,z) line (glK (B,(t,w,a,g,u),y,z) line j (tm,(r,op,at_,C),ds,bd,E,D))=true:=fun h s e=>by
  refine⟨by rw[e];show _=Qcd (B,(t,w,a,g,u),y,z) line (glK (B,(t,w,a,g,u),y,z) line k (tm,(r,op,at_,C),ds,bd,E,D));rw[←U],fun j hj=>?_⟩;by_cases hjk:j<k
  ·exact W j hjk
  ·have:j=k:=by omega
   subst this;rw[←U];show QdR (B,(t,w,a,g,u),y,z) (Qk (t,w,a,g,u) (r1,op1,at1,nmi1) line).2=true;simpa using h
 have H:0≤Qn (B,(t,w,a,g,u),y,z) (Qk (t,w,a,g,u) (r1,op1,at1,nmi1) line).2.2.1→Qn (B,(t,w,a,g,u),y,z) (Qk (t,w,a,g,u) (r1,op1,at1,nmi1) line).2.2.1<y.length∧fI (B,(t,w,a,g,u),y,z) (Qk (t,w,a,g,u) (r1,op1,at1,nmi1) line).2.2.1=Qn (B,(t,w,a,g,u),y,z) (Qk (t,w,a,g,u) (r1,op1,at1,nmi1) line).2.2.1:=fun h=>Qc1 h
 have hbP:bP (B,(t,w,a,g,u),y,z) (Qk (t,w,a,g,u) (r1,op1,at1,nmi1) line).2.2.1:=⟨by show y.length≤_;have:=P.1.1;have:y.length*64≤140737488351232:=this;omega,⟨by omega,by omega⟩,fun c h=>⟨(hc c h).1,(hc c h).2.1⟩⟩
 repeat' first|(apply Ea;conv=>whnf)|apply Eb|apply Ec|apply Ed|apply Ee|(apply Ei;intro _)|apply Ef hT Y
 all_goals(try dsimp only[Qf] at *)
 all_goals clear hT Y
 all_goals first
  |exact QnX Z
  |exact hbP
  |exact Qix Z line
  |(have f:=H (by assumption)
    show 0≤fI (B,(t,w,a,g,u),y,z) (Qk (t,w,a,g,u) (r1,op1,at1,nmi1) line).2.2.1∧fI (B,(t,w,a,g,u),y,z) (Qk (t,w,a,g,u) (r1,op1,at1,nmi1) line).2.2.1<(y.length:Int)
    omega)
  |(have f:=H (by assumption)
    show 0≤fI (B,(t,w,a,g,u),y,z) (Qk (t,w,a,g,u) (r1,op1,at1,nmi1) line).2.2.1∧fI (B,(t,w,a,g,u),y,z) (Qk (t,w,a,g,u) (r1,op1,at1,nmi1) line).2.2.1<(ds1.length:Int)
    omega)
  |(have f:=H (by assumption)
    show(fI (B,(t,w,a,g,u),y,z) (Qk (t,w,a,g,u) (r1,op1,at1,nmi1) line).2.2.1).toNat<ds1.length
    omega)
  |(have f:=H (by assumption)
    exact⟨hc _ (QK (dflt Qe) (show(fI (B,(t,w,a,g,u),y,z) (Qk (t,w,a,g,u) (r1,op1,at1,nmi1) line).2.2.1).toNat<y.length by omega)),hd1 _ (QK (dflt Qh) (show(fI (B,(t,w,a,g,u),y,z) (Qk (t,w,a,g,u) (r1,op1,at1,nmi1) line).2.2.1).toNat<ds1.length by omega))⟩)
  |(exfalso;exact YD (show(Qk (t,w,a,g,u) (r1,op1,at1,nmi1) line).2.1=1 by assumption) (by assumption))
  |skip
 ·rename_i G J;have G:(k:Int)<(N:Int):=G;have J:(!QdR (B,(t,w,a,g,u),y,z) (Qk (t,w,a,g,u) (r1,op1,at1,nmi1) line).2)=true:=J
  have e:glN (B,(t,w,a,g,u),y,z) (tm,(r,op,at_,C),ds,bd,E,D) (N:Int)=k:=by
   rw[hgN];refine QEN (by omega) W ?_;rw[←U];show QdR (B,(t,w,a,g,u),y,z) (Qk (t,w,a,g,u) (r1,op1,at1,nmi1) line).2=false;simpa using J
  exact .mk [] [0,1] _ R R R R R (QH2 (p:=(tm1,(r1,op1,at1,nmi1),ds1,bd1,ba1,bdt1)) (q:=glM (B,(t,w,a,g,u),y,z) (tm,(r,op,at_,C),ds,bd,E,D) (N:Int)) (by rw[hgM k e];exact U)) (Qd (by rw[e]))
 ·rename_i G J F S;have G:(k:Int)<(N:Int):=G;have F:(Qk (t,w,a,g,u) (r1,op1,at1,nmi1) line).2.1=1:=F;have f:=H S;apply Ex (tm1,QL (t,w,a,g,u) (Qk (t,w,a,g,u) (r1,op1,at1,nmi1) line).1 (loadI (y.getD (fI (B,(t,w,a,g,u),y,z) (Qk (t,w,a,g,u) (r1,op1,at1,nmi1) line).2.2.1).toNat (dflt Qe)) (ds1.getD (fI (B,(t,w,a,g,u),y,z) (Qk (t,w,a,g,u) (r1,op1,at1,nmi1) line).2.2.1).toNat (dflt Qh)) (atF (B,(t,w,a,g,u),y,z) (Qk (t,w,a,g,u) (r1,op1,at1,nmi1) line).2.2.1)),ds1.set (fI (B,(t,w,a,g,u),y,z) (Qk (t,w,a,g,u) (r1,op1,at1,nmi1) line).2.2.1).toNat (loadD (y.getD (fI (B,(t,w,a,g,u),y,z) (Qk (t,w,a,g,u) (r1,op1,at1,nmi1) line).2.2.1).toNat (dflt Qe)) (ds1.getD (fI (B,(t,w,a,g,u),y,z) (Qk (t,w,a,g,u) (r1,op1,at1,nmi1) line).2.2.1).toNat (dflt Qh)) (atF (B,(t,w,a,g,u),y,z) (Qk (t,w,a,g,u) (r1,op1,at1,nmi1) line).2.2.1)),(Qk (t,w,a,g,u) (r1,op1,at1,nmi1) line).2.1,(Qk (t,w,a,g,u) (r1,op1,at1,nmi1) line).2.2.1,(loadI (y.getD (fI (B,(t,w,a,g,u),y,z) (Qk (t,w,a,g,u) (r1,op1,at1,nmi1) line).2.2.1).toNat (dflt Qe)) (ds1.getD (fI (B,(t,w,a,g,u),y,z) (Qk (t,w,a,g,u) (r1,op1,at1,nmi1) line).2.2.1).toNat (dflt Qh)) (atF (B,(t,w,a,g,u),y,z) (Qk (t,w,a,g,u) (r1,op1,at1,nmi1) line).2.2.1))) [] [0,1,2]
  ·repeat' constructor
  ·omega
  ·exact QJ (by omega)
  refine M J _ ?_;rw[K,QvS (b:=(B,(t,w,a,g,u),y,z)) (x:=(Qk (t,w,a,g,u) (r1,op1,at1,nmi1) line).2) S F,QvU (b:=(B,(t,w,a,g,u),y,z)) (x:=(Qk (t,w,a,g,u) (r1,op1,at1,nmi1) line).2) S F,f.2]
 ·rename_i G J F S Q;have G:(k:Int)<(N:Int):=G;have F:(Qk (t,w,a,g,u) (r1,op1,at1,nmi1) line).2.1=1:=F;apply Ex (tm1,QL (t,w,a,g,u) (Qk (t,w,a,g,u) (r1,op1,at1,nmi1) line).1 255,ds1,(Qk (t,w,a,g,u) (r1,op1,at1,nmi1) line).2.1,(Qk (t,w,a,g,u) (r1,op1,at1,nmi1) line).2.2.1,255) [] [0,1,2]
  ·repeat' constructor
  ·omega
  ·exact QJ (by omega)
  refine M J _ ?_;rw[K,QvT (b:=(B,(t,w,a,g,u),y,z)) (x:=(Qk (t,w,a,g,u) (r1,op1,at1,nmi1) line).2) S F,QjD (b:=(B,(t,w,a,g,u),y,z)) (x:=(Qk (t,w,a,g,u) (r1,op1,at1,nmi1) line).2) S]
 ·rename_i G J F S Q g6;have G:(k:Int)<(N:Int):=G;have F:¬(Qk (t,w,a,g,u) (r1,op1,at1,nmi1) line).2.1=1:=F;have Q:(Qk (t,w,a,g,u) (r1,op1,at1,nmi1) line).2.1=2:=Q;have f:=H g6;apply Ex (tm1,QL (t,w,a,g,u) (Qk (t,w,a,g,u) (r1,op1,at1,nmi1) line).1 (Qk (t,w,a,g,u) (r1,op1,at1,nmi1) line).2.2.2,ds1.set (fI (B,(t,w,a,g,u),y,z) (Qk (t,w,a,g,u) (r1,op1,at1,nmi1) line).2.2.1).toNat (Qbg (y.getD (fI (B,(t,w,a,g,u),y,z) (Qk (t,w,a,g,u) (r1,op1,at1,nmi1) line).2.2.1).toNat (dflt Qe)) (ds1.getD (fI (B,(t,w,a,g,u),y,z) (Qk (t,w,a,g,u) (r1,op1,at1,nmi1) line).2.2.1).toNat (dflt Qh)) (atF (B,(t,w,a,g,u),y,z) (Qk (t,w,a,g,u) (r1,op1,at1,nmi1) line).2.2.1) (Qk (t,w,a,g,u) (r1,op1,at1,nmi1) line).2.2.2),(Qk (t,w,a,g,u) (r1,op1,at1,nmi1) line).2.1,(Qk (t,w,a,g,u) (r1,op1,at1,nmi1) line).2.2.1,(Qk (t,w,a,g,u) (r1,op1,at1,nmi1) line).2.2.2) [] [0,1,2]
  ·repeat' constructor
  ·omega
  ·exact QJ (by omega)
  refine M J _ ?_;rw[K,QfX (b:=(B,(t,w,a,g,u),y,z)) (x:=(Qk (t,w,a,g,u) (r1,op1,at1,nmi1) line).2) F,QvV (b:=(B,(t,w,a,g,u),y,z)) (x:=(Qk (t,w,a,g,u) (r1,op1,at1,nmi1) line).2) g6 Q,f.2]
 ·rename_i G J F S Q g6;have G:(k:Int)<(N:Int):=G;have F:¬(Qk (t,w,a,g,u) (r1,op1,at1,nmi1) line).2.1=1:=F;apply Ex (tm1,QL (t,w,a,g,u) (Qk (t,w,a,g,u) (r1,op1,at1,nmi1) line).1 (Qk (t,w,a,g,u) (r1,op1,at1,nmi1) line).2.2.2,ds1,(Qk (t,w,a,g,u) (r1,op1,at1,nmi1) line).2.1,(Qk (t,w,a,g,u) (r1,op1,at1,nmi1) line).2.2.1,(Qk (t,w,a,g,u) (r1,op1,at1,nmi1) line).2.2.2) [] [0,1,2]
  ·repeat' constructor
  ·omega
  ·exact QJ (by omega)
  refine M J _ ?_;rw[K,QfX (b:=(B,(t,w,a,g,u),y,z)) (x:=(Qk (t,w,a,g,u) (r1,op1,at1,nmi1) line).2) F,QjD (b:=(B,(t,w,a,g,u),y,z)) (x:=(Qk (t,w,a,g,u) (r1,op1,at1,nmi1) line).2) g6]
 ·rename_i G J F S Q;have G:(k:Int)<(N:Int):=G;have F:¬(Qk (t,w,a,g,u) (r1,op1,at1,nmi1) line).2.1=1:=F;have Q:¬(Qk (t,w,a,g,u) (r1,op1,at1,nmi1) line).2.1=2:=Q;apply Ex (tm1,QL (t,w,a,g,u) (Qk (t,w,a,g,u) (r1,op1,at1,nmi1) line).1 (Qk (t,w,a,g,u) (r1,op1,at1,nmi1) line).2.2.2,ds1,(Qk (t,w,a,g,u) (r1,op1,at1,nmi1) line).2.1,(Qk (t,w,a,g,u) (r1,op1,at1,nmi1) line).2.2.1,(Qk (t,w,a,g,u) (r1,op1,at1,nmi1) line).2.2.2) [] [0,1,2]
  ·repeat' constructor
  ·omega
  ·exact QJ (by omega)
  refine M J _ ?_;rw[K,QfX (b:=(B,(t,w,a,g,u),y,z)) (x:=(Qk (t,w,a,g,u) (r1,op1,at1,nmi1) line).2) F,QvW (b:=(B,(t,w,a,g,u),y,z)) (x:=(Qk (t,w,a,g,u) (r1,op1,at1,nmi1) line).2) F Q]
 ·rename_i G;have G:¬(k:Int)<(N:Int):=G;have ek:k=N:=by omega
  subst ek;have e:glN (B,(t,w,a,g,u),y,z) (tm,(r,op,at_,C),ds,bd,E,D) (k:Int)=k:=by rw[hgN];exact QEO W
  exact .mk [] [0,1] _ R R R R R (QH2 (p:=(tm1,(r1,op1,at1,nmi1),ds1,bd1,ba1,bdt1)) (q:=glM (B,(t,w,a,g,u),y,z) (tm,(r,op,at_,C),ds,bd,E,D) (k:Int)) (by rw[hgM k e];exact U)) (Qd (by rw[e]))
def qiK(b:Bd)(m:Mach)(l:List Inp)(n:Int):Nat:=glN b m (imin (imin n (QaY b m)) (Qa7 m l))
def qiM(b:Bd)(m:Mach)(l:List Inp)(n:Int):Mach :=
 (imin (m.1+qiK b m l n) 1099511627776,(glM b m (imin (imin n (QaY b m)) (Qa7 m l))).2.1,List.zipWith (fun c d=>Qdg c d (qiK b m l n)) b.2.2.1 (glM b m (imin (imin n (QaY b m)) (Qa7 m l))).2.2.1,(glM b m (imin (imin n (QaY b m)) (Qa7 m l))).2.2.2)
theorem Qf6(b:Bd)(l:List Inp):∀(k:Nat) (s:Mach×List Inp),Qbz b l k s=((Qbz b l k (s.1,[])).1,s.2++(Qbz b l k (s.1,[])).2)
 |0,s=>by show s=(s.1,s.2++[]);rw[Jd]
 |k+1,s=>by
  rw[Qa6,Qa6 b l k (s.1,[]),Qf6 b l k s];show(_,_++_)=(_,_++(_++_))
  rw[Yy]
theorem Qf7(b:Bd)(l:List Inp):∀(j k:Nat) (s:Mach×List Inp),Qbz b l (j+k) s=Qbz b l k (Qbz b l j s)
 |0,k,s=>by rw[Jh];rfl
 |j+1,k,s=>by rw[show j+1+k=(j+k)+1 by omega];exact Qf7 b l j k _
theorem QmX{b:Bd}{l:List Inp}{m:Mach}(h:0≤m.1∧m.1≤1099511627776):∀k,0≤(Qbz b l k (m,[])).1.1∧(Qbz b l k (m,[])).1.1≤1099511627776
 |0=>h
 |k+1=>by
  rw[Qa6];show 0≤Qcg _∧Qcg _≤1099511627776;unfold Qcg;omega
structure QiP(b:Bd)(m:Mach)(l:List Inp):Prop where
 c:∀c∈b.2.2.1,cP c
 l:b.2.2.1.length=m.2.2.1.length
 u:∀d∈m.2.2.1,u8s d.2
 t:0≤m.1∧m.1≤1099511627776
theorem QMj{b:Bd}{m:Mach}{l:List Inp}{n:Int}(h:0≤n):(qiK b m l n:Int)≤n∧(qiK b m l n:Int)≤QaY b m∧(qiK b m l n:Int)≤Qa7 m l:=by
 have S:0≤QaY b m:=Qlb _ _ _ (by decide);have h2:0≤Qa7 m l:=Qla (by decide);have h3:=QB2 b (QC b m.2.2.1) (imin (imin n (QaY b m)) (Qa7 m l)).toNat m;have h4:qiK b m l n≤(imin (imin n (QaY b m)) (Qa7 m l)).toNat:=h3;rw[QS,QS] at h4;omega
theorem QwI{b:Bd}{m:Mach}{l:List Inp}{n:Int}(hn:0≤n)(h:QiP b m l):GL (qiK b m l n) b m.1 (QC b m.2.2.1) (qiK b m l n) (Qbz b l (qiK b m l n) (m,[])) (glM b m (imin (imin n (QaY b m)) (Qa7 m l))):=by
 obtain⟨k1,k2,k3⟩:=QMj (b:=b) (m:=m) (l:=l) hn;refine QmW h.c h.l h.u k2 (fun x hx hh=>?_) h.t (qiK b m l n) (YE _) fun j hj=>QB3 _ _ _ _ _ hj
 have:Qa7 m l≤x.1-m.1:=QqI x hx hh.1;omega
theorem QB4(k:Nat)(cs:List Cv)(ds:List Dv):List.zipWith (fun c d=>Qdg c d (k:Int)) cs ds=List.zipWith (fun c d=>itF c d k) cs ds:=by
 have e:(fun(c:Cv) (d:Dv)=>Qdg c d (k:Int))=fun c d=>itF c d k:=by
  funext c d;rw[Qqp,Int.toNat_natCast]
 rw[e]
theorem QwJ{b:Bd}{m:Mach}{l:List Inp}{n:Int}(hn:0≤n)(h:QiP b m l)(hk:1≤qiK b m l n):Qbz b l (qiK b m l n) (m,[])=(qiM b m l n,[]):=by
 have g:=QwI hn h;have e:=g.e hk;rw[←QB4] at e;generalize hr:Qbz b l (qiK b m l n) (m,[])=r at *;obtain⟨⟨rt,rk,rd,rs⟩,ro⟩:=r;have S:ro=[]:=g.o;have h2:rk=_:=g.c;have h3:rs=_:=g.s;have h4:rt=min (m.1+(qiK b m l n:Nat)) 1099511627776:=g.t;have h5:rd=_:=e;subst S;unfold qiM;rw[QS,←h2,←h3,←h4,←h5]
theorem QEP{b:Bd}{m:Mach}{l:List Inp}{n:Int}(hn:0≤n)(h:QiP b m l):Qs b (qiM b m l n) l=Qs b (Qbz b l (qiK b m l n) (m,[])).1 l:=by
 by_cases hk:1≤qiK b m l n
 ·rw[QwJ hn h hk]
 ·have hk:qiK b m l n=0:=by omega
  have g:=QwI hn h
  have hM:glM b m (imin (imin n (QaY b m)) (Qa7 m l))=m:=by
   have:glM b m (imin (imin n (QaY b m)) (Qa7 m l))=glK b (QC b m.2.2.1) (qiK b m l n) m:=rfl;rw[this,hk];rfl
  have e:qiM b m l n=(m.1,m.2.1,List.zipWith (fun c d=>Qdg c d ((0:Nat):Int)) b.2.2.1 m.2.2.1,m.2.2.2):=by
   unfold qiM;rw[hM,hk,QS,show min (m.1+((0:Nat):Int)) 1099511627776=m.1 by have:=h.t;omega]
  rw[e,hk,QB4];obtain⟨mt,mk,md,ms⟩:=m;show Qs b (mt,mk,_,ms) l=Qs b (mt,mk,md,ms) l;refine QAg l ?_;refine(L3.refl (R:=fun c d e=>d=e) h.l fun i hi=>rfl).map1 fun c d e r=>?_
  subst r;show Q9 c (itF c d 0)=Q9 c d;rw[Qhm,QEf]
theorem QEQ{b:Bd}{m:Mach}{l:List Inp}{n:Int}(hn:0<n)(h:QiP b m l)(hk:¬(qiK b m l n:Int)=n):Qbz b l (qiK b m l n+1) (m,[])=Qs b (qiM b m l n) l:=by
 rw[Qa6,QEP (by omega) h,(QwI (by omega) h).o];rfl
theorem QwK{c:Cv}(hc:cP c){L:Nat}{d:Dv}(h:OkD L d):GoodD c L (Q9 c d) :=
 Qgw _ (QfQ hc h.u) (QT (Qu0 _)) (QT (QkD _)) (QT (QDI _)) (QfR (QnN _) (Qe5 h.u) (Nat.le_of_eq (Qa0 _))) (QT (QkF _)) (Qhf (QkG (Qty _ _)) h.u h.l) (QT QFe)
theorem QwL{c:Cv}(hc:cP c){L:Nat}{d:Dv}(h:OkD L d)(hL:List.length c.2.2.2.2+70000≤L):∀j,GoodD c L (itF c d j)
 |0=>by rw[Qhm];exact QwK hc h
 |j+1=>by
  rw[←Qqq c h.u j];exact Qio hc ((QwL hc h hL j).ok hL)
theorem QqK(b:Bd)(line:Bool)(m:Mach):∀k,(glK b line k m).1=m.1
 |0=>rfl
 |k+1=>QqK b line m k
theorem QH3{L:Nat}{b:Bd}{m:Mach}{l:List Inp}{n:Int}(h:MOk L b m)(ht:Qbc b.2.1 m.2.1):(MOk L b (qiM b m l n)∧Qbc b.2.1 (qiM b m l n).2.1)∧∀d∈(qiM b m l n).2.2.1,Q2 d.1∧List.length d.2≤L:=by
 obtain⟨S,h2⟩:=QqJ (line:=QC b m.2.2.1) h ht (glN b m (imin (imin n (QaY b m)) (Qa7 m l)))
 have hd:∀d∈(qiM b m l n).2.2.1,(Q2 d.1∧u8s d.2)∧List.length d.2≤L:=fun d hd=>by
  have hd:d∈List.zipWith (fun c d=>Qdg c d ((qiK b m l n:Nat):Int)) b.2.2.1 (glM b m (imin (imin n (QaY b m)) (Qa7 m l))).2.2.1:=hd;obtain⟨c,hc,e,he,rfl⟩:=QkX hd;have h6:=(h.c c hc).2;have h5:=QwL (h.c c hc).1 (S.d e he) h6 (qiK b m l n);rw[Qqp];exact⟨⟨h5.n,h5.u⟩,by have:=h5.l;show List.length (itF c e (qiK b m l n)).2≤L;omega⟩
 have hz:(qiM b m l n).2.2.1.length=b.2.2.1.length:=by
  show(List.zipWith (fun c d=>Qdg c d ((qiK b m l n:Nat):Int)) b.2.2.1 (glM b m (imin (imin n (QaY b m)) (Qa7 m l))).2.2.1).length=_;rw[Ja];have:b.2.2.1.length=(glM b m (imin (imin n (QaY b m)) (Qa7 m l))).2.2.1.length:=S.l;omega
 exact⟨⟨⟨h.L1,h.L2,h.c,fun d h=>⟨(hd d h).1.2,(hd d h).2⟩,hz.symm⟩,h2⟩,fun d h=>⟨(hd d h).1.1,(hd d h).2⟩⟩
theorem QwM{b:Bd}{m:Mach}{l:List Inp}{n:Int}(h:QbH b m l (imin n 0)=0):QN b m l=0∧0≤n∧imin n 0=0:=by
 have S:QN b m l=0:=by
  unfold QbH at h;split at h
  ·rename_i S;exact YD h S
  ·rename_i S;simpa using S
 have h2:¬imin n 0<0:=fun hh=>by
  unfold QbH at h;rw[Yb (fun h=>h S),Yf hh] at h;cases h
 rw[QS] at h2 ⊢;exact⟨S,by omega,by omega⟩
theorem QwN{b:Bd}{m:Mach}{l:List Inp}{n:Int}(h:QbH b m l (imin n 0)≠0):QbH b m l n=QbH b m l (imin n 0):=by
 unfold QbH at h ⊢;by_cases S:QN b m l=0
 ·have a:¬QN b m l≠0:=fun hh=>hh S
  rw[Yb a] at h;rw[Yb a,Yb a];rw[QS] at h ⊢;by_cases h2:n<0
  ·rw[show min n 0=n by omega]
  ·rw[show min n 0=0 by omega] at h;exact YD rfl h
 ·rw[Yf S,Yf S]
def QER(b:Bd)(m:Mach)(l:List Inp):Prop:=(Qz9 b m l∧∀x∈l,Q1 x.1)∧(QbH b m l 0=0→∃L,MOk L b m∧L≤140737488351232)
def QH4:PSpec:=⟨[gBd,gM,gIn,gi],fun(b,m,l,n,_)=>(some (QER b m l),.tup [QgG (Qdr b m l n).1 0,.c (.own 1),I1 (QbH b m l n)],[.arr Qh (Qdr b m l n).1.2.2.1,.arr Qv (Qdr b m l n).2])⟩
theorem QwO{p q:Mach×List Inp}(h:p=q):[some (Blk.arr Qh p.1.2.2.1),some (Blk.arr Qv p.2)]=[some (Blk.arr Qh q.1.2.2.1),some (Blk.arr Qv q.2)]:=by rw[h]
theorem QES:G0 32 QH4.spec:=by
 have hP:S0 _:=Qa Qwv (Qa QzK (Qa QAh (Qa QwH (Qa Qkv (Qa Qwu.eat (Qb (T:=tree)))))));have hT:=tabs hP Qc;refine QH4.gd hT hP Tryz.func32 fun(b:Bd) (m:Mach) (l:List Inp) (n:Int) hq=>?_
 obtain⟨⟨hmr,hli⟩,hLL⟩:QER b m l:=hq _ rfl;clear hq;have hM1:∀n,QbH b m l n≠0→Qdr b m l n=(Qk7,[]):=fun n h=>Yb h
 have hM2:∀n,QbH b m l n=0→Qdr b m l n=Qbz b l n.toNat (m,[]):=fun n h=>Yf h
 have hE2:QN b m l=0→n>100000→QbH b m l n=2:=fun h h2=>by
  unfold QbH;rw[Yb (fun hh=>hh h),Yb (by omega),Yf h2]
 have hE3:QN b m l=0→0≤n→¬n>100000→QbH b m l n=0:=fun h h2 h3=>by
  unfold QbH;rw[Yb (fun hh=>hh h),Yb (by omega),Yb h3]
 have hE0:QN b m l=0→QbH b m l 0=0:=fun h=>by
  unfold QbH;rw[Yb (fun hh=>hh h)];rfl
 have hS:=fun h=>QaT (b:=b) (m:=m) (l:=l) h
 have hm0:=fun h=>QwM (b:=b) (m:=m) (l:=l) (n:=n) h
 have hm1:=fun h=>QwN (b:=b) (m:=m) (l:=l) (n:=n) h
 have S:=hmr.1;have h4:=hmr.2.1;obtain⟨H,⟨C,E,y,B,D⟩,w,F⟩:=b;obtain⟨tm,⟨r,op,at_,O⟩,ds,bd,W,P⟩:=m
 repeat' first|(apply Ea;conv=>whnf)|apply Eb|apply Ec|apply Ed|apply Ee|(apply Ei;intro _)|apply Ef hT hP
 all_goals(try dsimp only[Qf] at *)
 ·exact hmr
 ·rename_i g1 Q;have Q:n>100000:=Q;have e:=hE2 (hm0 g1).1 Q;have e2:=hM1 n (by rw[e];decide);exact .le (.trans (Le.nilH 2 Qh _ _ R R R) (Le.nil 9 Qv rfl)) (.mk [] [5,6] _ R R R R R (Yv (fun z:Mach×List Inp=>[some (Blk.arr Qh z.1.2.2.1),some (Blk.arr Qv z.2)]) e2.symm) (Qei (p:=(Qk7,[])) e2.symm e.symm))
 ·rename_i g1 Q V;exact YD (show QbH (H,(C,E,y,B,D),w,F) (tm,(r,op,at_,O),ds,bd,W,P) l (imin n 0)=0 from g1) (Qc2 (x:=QbH (H,(C,E,y,B,D),w,F) (tm,(r,op,at_,O),ds,bd,W,P) l (imin n 0)) V)
 rotate_left
 ·rename_i g1 Q;have e0:=Qc2 (x:=QbH (H,(C,E,y,B,D),w,F) (tm,(r,op,at_,O),ds,bd,W,P) l (imin n 0)) Q;have e:=hm1 e0;have e2:=hM1 n (by rw[e];exact e0);exact .le (.trans (Le.nilH 2 Qh _ _ R R R) (Le.nil 9 Qv rfl)) (.mk [] [5,6] _ R R R R R (Yv (fun z:Mach×List Inp=>[some (Blk.arr Qh z.1.2.2.1),some (Blk.arr Qv z.2)]) e2.symm) (Qei (p:=(Qk7,[])) e2.symm e.symm))
 ·rename_i g1 Q;exact YD (QaS (x:=QbH (H,(C,E,y,B,D),w,F) (tm,(r,op,at_,O),ds,bd,W,P) l (imin n 0)) Q) g1
 rename_i g1 Q V;clear V;obtain⟨hst,hn0,hmin⟩:=hm0 g1;have Q:¬n>100000:=Q;have hR:Qdr (H,(C,E,y,B,D),w,F) (tm,(r,op,at_,O),ds,bd,W,P) l (imin n 0)=((tm,(r,op,at_,O),ds,bd,W,P),[]):=by rw[hM2 _ g1,hmin];rfl
 rw[hR];have he:=hE3 hst hn0 Q;have heM:=hM2 n he;obtain⟨hbE,hlen,htm,hll⟩:=hS hst;have hbl:w.length≤12:=(Qho (b:=(H,(C,E,y,B,D),w,F)) hbE).1;obtain⟨L,hMo,hLs⟩:=hLL (hE0 hst);have ht:=h4 (hE0 hst);obtain⟨N,rfl⟩:=Yz hn0;have hbd:=S.2.2.1
 refine Q4 hT hP (X:=Int×Mach×List Inp) (fun(q,s,o)=>St.mk (E2 ((.cell (.ro Qv l))::(I q)::(.cell (.ptr 0 0))::(.cell (.ptr 1 0))::E2 ((.cell (.ptr 2 0))::E2 ((.cell (.own 4))::E40 (E40 (E3 []))))))
  [some (.var [.imm (.string H),.imm (.string C),.ro Qap E,.ro Qp y,.ro Qp B,.ro Qp D,.ro Qe w,.ro Qo F]),
   some (.var [iv .i64 s.1,.run .i64 9 s.2.1.1,iv .i64 s.2.1.2.1,iv .i64 s.2.1.2.2.1,bv s.2.1.2.2.2,.own 3,iv .i64 s.2.2.2.1,iv .i64 s.2.2.2.2.1,iv .i64 s.2.2.2.2.2]),
   some (.var [.imm (.int .i64 0),.run .i64 9 (List.replicate 9 0),.imm (.int .i64 0),.imm (.int .i64 0),.imm (.bool false),.imm (.slice none 0 0),.imm (.int .i64 0),.imm (.int .i64 0),.imm (.int .i64 0)]),some (.arr Qh s.2.2.1),some (.arr Qv o)])
  (fun(q,s,o)=>∃j:Nat,q=(N:Int)-j∧j≤N∧(s,o)=Qbz (H,(C,E,y,B,D),w,F) l j ((tm,(r,op,at_,O),ds,bd,W,P),[])) (fun(q,_,_)=>q.toNat) ((N:Int),(tm,(r,op,at_,O),ds,bd,W,P),[]) (Le.k [] [0,1,2,3,4] ?_) ⟨0,by omega,YR _,rfl⟩ fun(q,s,o) hi=>?_
 ·repeat' constructor
 obtain⟨j,hq,hj,hi⟩:=hi;have hro:=Qej (l:=l) hMo ht j;have Y:=QmX (b:=(H,(C,E,y,B,D),w,F)) (l:=l) (m:=(tm,(r,op,at_,O),ds,bd,W,P)) htm j;rw[←hi] at hro Y;obtain⟨J,Z,hro3⟩:MOk L (H,(C,E,y,B,D),w,F) s∧Qbc (C,E,y,B,D) s.2.1∧o.length≤j*w.length:=hro;have Y:0≤s.1∧s.1≤1099511627776:=Y;have hQ:QiP (H,(C,E,y,B,D),w,F) s l:=⟨fun c h=>(J.c c h).1,J.l,fun d h=>(J.d d h).u,Y⟩
 have hqk:=QMj (b:=(H,(C,E,y,B,D),w,F)) (m:=s) (l:=l) (n:=q);have U:=fun h=>QwJ (b:=(H,(C,E,y,B,D),w,F)) (m:=s) (l:=l) (n:=q) h hQ
 have hqn:=fun h=>QEQ (b:=(H,(C,E,y,B,D),w,F)) (m:=s) (l:=l) (n:=q) h hQ
 have hqm:=QH3 (l:=l) (n:=q) J Z;have hgk:=QqJ (line:=QC (H,(C,E,y,B,D),w,F) s.2.2.1) J Z (glN (H,(C,E,y,B,D),w,F) s (imin (imin q (QaY (H,(C,E,y,B,D),w,F) s)) (Qa7 s l)));have hgt:=QqK (H,(C,E,y,B,D),w,F) (QC (H,(C,E,y,B,D),w,F) s.2.2.1) s (glN (H,(C,E,y,B,D),w,F) s (imin (imin q (QaY (H,(C,E,y,B,D),w,F) s)) (Qa7 s l)));have hs0:0≤QaY (H,(C,E,y,B,D),w,F) s:=Qlb _ _ _ (by decide);have hs1:QaY (H,(C,E,y,B,D),w,F) s≤100000:=Qhq _ _ _;have hs2:0≤Qa7 s l:=Qla (by decide);obtain⟨tm1,⟨r1,op1,at1,nmi1⟩,ds1,bd1,ba1,bdt1⟩:=s;have hgK:MOk L (H,(C,E,y,B,D),w,F) (glM (H,(C,E,y,B,D),w,F) (tm1,(r1,op1,at1,nmi1),ds1,bd1,ba1,bdt1) (imin (imin q (QaY (H,(C,E,y,B,D),w,F) (tm1,(r1,op1,at1,nmi1),ds1,bd1,ba1,bdt1))) (Qa7 (tm1,(r1,op1,at1,nmi1),ds1,bd1,ba1,bdt1) l)))∧Qbc (C,E,y,B,D) (glM (H,(C,E,y,B,D),w,F) (tm1,(r1,op1,at1,nmi1),ds1,bd1,ba1,bdt1) (imin (imin q (QaY (H,(C,E,y,B,D),w,F) (tm1,(r1,op1,at1,nmi1),ds1,bd1,ba1,bdt1))) (Qa7 (tm1,(r1,op1,at1,nmi1),ds1,bd1,ba1,bdt1) l))).2.1:=hgk;have hgT:(glM (H,(C,E,y,B,D),w,F) (tm1,(r1,op1,at1,nmi1),ds1,bd1,ba1,bdt1) (imin (imin q (QaY (H,(C,E,y,B,D),w,F) (tm1,(r1,op1,at1,nmi1),ds1,bd1,ba1,bdt1))) (Qa7 (tm1,(r1,op1,at1,nmi1),ds1,bd1,ba1,bdt1) l))).1=tm1:=hgt;have hqd:qiM (H,(C,E,y,B,D),w,F) (tm1,(r1,op1,at1,nmi1),ds1,bd1,ba1,bdt1) l q=(imin (tm1+(glN (H,(C,E,y,B,D),w,F) (tm1,(r1,op1,at1,nmi1),ds1,bd1,ba1,bdt1) (imin (imin q (QaY (H,(C,E,y,B,D),w,F) (tm1,(r1,op1,at1,nmi1),ds1,bd1,ba1,bdt1))) (Qa7 (tm1,(r1,op1,at1,nmi1),ds1,bd1,ba1,bdt1) l)):Nat)) 1099511627776,(glM (H,(C,E,y,B,D),w,F) (tm1,(r1,op1,at1,nmi1),ds1,bd1,ba1,bdt1) (imin (imin q (QaY (H,(C,E,y,B,D),w,F) (tm1,(r1,op1,at1,nmi1),ds1,bd1,ba1,bdt1))) (Qa7 (tm1,(r1,op1,at1,nmi1),ds1,bd1,ba1,bdt1) l))).2.1,List.zipWith (fun c d=>Qdg c d (glN (H,(C,E,y,B,D),w,F) (tm1,(r1,op1,at1,nmi1),ds1,bd1,ba1,bdt1) (imin (imin q (QaY (H,(C,E,y,B,D),w,F) (tm1,(r1,op1,at1,nmi1),ds1,bd1,ba1,bdt1))) (Qa7 (tm1,(r1,op1,at1,nmi1),ds1,bd1,ba1,bdt1) l)):Nat)) w (glM (H,(C,E,y,B,D),w,F) (tm1,(r1,op1,at1,nmi1),ds1,bd1,ba1,bdt1) (imin (imin q (QaY (H,(C,E,y,B,D),w,F) (tm1,(r1,op1,at1,nmi1),ds1,bd1,ba1,bdt1))) (Qa7 (tm1,(r1,op1,at1,nmi1),ds1,bd1,ba1,bdt1) l))).2.2.1,(glM (H,(C,E,y,B,D),w,F) (tm1,(r1,op1,at1,nmi1),ds1,bd1,ba1,bdt1) (imin (imin q (QaY (H,(C,E,y,B,D),w,F) (tm1,(r1,op1,at1,nmi1),ds1,bd1,ba1,bdt1))) (Qa7 (tm1,(r1,op1,at1,nmi1),ds1,bd1,ba1,bdt1) l))).2.2.2):=rfl;have hqK:qiK (H,(C,E,y,B,D),w,F) (tm1,(r1,op1,at1,nmi1),ds1,bd1,ba1,bdt1) l q=glN (H,(C,E,y,B,D),w,F) (tm1,(r1,op1,at1,nmi1),ds1,bd1,ba1,bdt1) (imin (imin q (QaY (H,(C,E,y,B,D),w,F) (tm1,(r1,op1,at1,nmi1),ds1,bd1,ba1,bdt1))) (Qa7 (tm1,(r1,op1,at1,nmi1),ds1,bd1,ba1,bdt1) l)):=rfl;rw[hqK] at hqk U hqn
 repeat' first|(apply Ea;conv=>whnf)|apply Eb|apply Ec|apply Ed|apply Ee|(apply Ei;intro _)|apply Ef hT hP
 all_goals(try dsimp only[Qf] at *)
 ·exact⟨hbd.1.1,hQ.c,fun d h=>(J.d d h).dP J.L2⟩
 ·exact⟨Y,S.2.1,hli⟩
 ·rename_i g;have g:q>0:=g;refine⟨⟨?_,?_⟩,⟨hbd,Z⟩,L,J⟩
  ·show 0≤imin (imin q (QaY (H,(C,E,y,B,D),w,F) (tm1,(r1,op1,at1,nmi1),ds1,bd1,ba1,bdt1))) (Qa7 (tm1,(r1,op1,at1,nmi1),ds1,bd1,ba1,bdt1) l);rw[QS,QS];omega
  ·show imin (imin q (QaY (H,(C,E,y,B,D),w,F) (tm1,(r1,op1,at1,nmi1),ds1,bd1,ba1,bdt1))) (Qa7 (tm1,(r1,op1,at1,nmi1),ds1,bd1,ba1,bdt1) l)≤1000000;rw[QS,QS];omega
 rotate_left
 ·rename_i g;have g:¬q>0:=g;have ej:j=N:=by omega
  subst ej;have e3:((tm1,(r1,op1,at1,nmi1),ds1,bd1,ba1,bdt1),o)=Qdr (H,(C,E,y,B,D),w,F) (tm,(r,op,at_,O),ds,bd,W,P) l (j:Int):=by rw[heM];exact hi
  exact .mk [] [3,4] _ R R R R R (QwO e3) (Qei (p:=((tm1,(r1,op1,at1,nmi1),ds1,bd1,ba1,bdt1),o)) e3 he.symm)
 rename_i g;have g:q>0:=g;have hqk:=hqk (by omega);have U:=U (by omega);have hqn:=hqn g;generalize hK:glN (H,(C,E,y,B,D),w,F) (tm1,(r1,op1,at1,nmi1),ds1,bd1,ba1,bdt1) (imin (imin q (QaY (H,(C,E,y,B,D),w,F) (tm1,(r1,op1,at1,nmi1),ds1,bd1,ba1,bdt1))) (Qa7 (tm1,(r1,op1,at1,nmi1),ds1,bd1,ba1,bdt1) l))=K at *;generalize hG:glM (H,(C,E,y,B,D),w,F) (tm1,(r1,op1,at1,nmi1),ds1,bd1,ba1,bdt1) (imin (imin q (QaY (H,(C,E,y,B,D),w,F) (tm1,(r1,op1,at1,nmi1),ds1,bd1,ba1,bdt1))) (Qa7 (tm1,(r1,op1,at1,nmi1),ds1,bd1,ba1,bdt1) l))=G at *;obtain⟨gt,⟨gr,gop,gat,gnmi⟩,gd,gs1,gs2,gs3⟩:=G;obtain rfl:gt=tm1:=hgT;have hgl:w.length=gd.length:=hgK.1.l;have hgd:∀d∈gd,dP d:=fun d h=>(hgK.1.d d h).dP J.L2
 have hKb:(K:Int)≤100000:=by omega
 refine QA hT hP (A:=List Dv) w.length (fun i d=>St.mk (E2 ((.cell (.ro Qv l))::(I q)::(.cell (.ptr 0 0))::(.cell (.ptr 1 0))::E2 ((.cell (.ptr 2 0))::E2 ((.cell (.own 4))::E1 ((I K)::E20 (E10 (E5 (E1 ((.cell (.ro Qe w))::(I w.length)::(I i)::E40 (E2 []))))))))))
  [some (.var [.imm (.string H),.imm (.string C),.ro Qap E,.ro Qp y,.ro Qp B,.ro Qp D,.ro Qe w,.ro Qo F]),
   some (.var [iv .i64 gt,.run .i64 9 gr,iv .i64 gop,iv .i64 gat,bv gnmi,.own 3,iv .i64 gs1,iv .i64 gs2,iv .i64 gs3]),
   some (.var [.imm (.int .i64 0),.run .i64 9 (List.replicate 9 0),.imm (.int .i64 0),.imm (.int .i64 0),.imm (.bool false),.imm (.slice none 0 0),.imm (.int .i64 0),.imm (.int .i64 0),.imm (.int .i64 0)]),some (.arr Qh d),some (.arr Qv o)])
  (fun k d=>d=QdP (fun c d=>Qdg c d K) w gd k) gd (Le.k [] [0,1,2,3,4] ?_) (QfW _ _ _).symm fun k d hk hdi=>?_
 ·repeat' constructor
 have hdl:d.length=w.length:=by rw[hdi,QbW hgl hk];exact hgl.symm
 have hdg:k<w.length→d.getD k (dflt Qh)=gd.getD k (dflt Qh):=fun h=>by rw[hdi];exact QbX hgl h _
 have hds:k<w.length→d.set k (Qdg (w.getD k (dflt Qe)) (gd.getD k (dflt Qh)) K)=QdP (fun c d=>Qdg c d K) w gd (k+1):=fun h=>by rw[hdi];exact Qbp (f:=fun c d=>Qdg c d K) hgl h _ _
 have hw1:i64.wrap (gt+(K:Int))=gt+K:=w64 (by omega) (by omega);have hw2:i64.wrap (q-(K:Int))=q-K:=w64 (by omega) (by omega)
 have M:¬k<w.length→((imin (i64.wrap (gt+(K:Int))) 1099511627776,(gr,gop,gat,gnmi),d,gs1,gs2,gs3):Mach)=qiM (H,(C,E,y,B,D),w,F) (gt,(r1,op1,at1,nmi1),ds1,bd1,ba1,bdt1) l q:=fun h=>by
  rw[hqd,hw1,hdi,QbF hgl (by omega)]
 repeat' first|(apply Ea;conv=>whnf)|apply Eb|apply Ec|apply Ed|apply Ee|(apply Ei;intro _)|apply Ef hT hP
 all_goals(try dsimp only[Qf] at *)
 ·rename_i g;have g:(k:Int)<(w.length:Int):=g;show 0≤(k:Int)∧(k:Int)<(w.length:Int);omega
 ·rename_i g;have g:(k:Int)<(w.length:Int):=g;show 0≤(k:Int)∧(k:Int)<(d.length:Int);omega
 ·rename_i g;have g:(k:Int)<(w.length:Int):=g;show k<d.length;omega
 ·rename_i g;have g:(k:Int)<(w.length:Int):=g;refine⟨hQ.c _ (QK (dflt Qe) (show k<w.length by omega)),?_,by show(K:Int)≤1000000;omega⟩;show dP (d.getD k (dflt Qh));rw[hdg (by omega)];exact hgd _ (QK (dflt Qh) (show k<gd.length by omega))
 ·rename_i g;have g:(k:Int)<(w.length:Int):=g;show 0≤(k:Int)∧(k:Int)<(d.length:Int);omega
 ·rename_i g;have g:(k:Int)<(w.length:Int):=g;show k<d.length;omega
 ·rename_i g;have g:(k:Int)<(w.length:Int):=g;have hds:=hds (by omega);rw[←hdg (by omega)] at hds;apply Ex _ [] [0,1,2,3,4]
  ·repeat' constructor
  ·omega
  ·exact QJ (by omega)
  exact hds
 ·rename_i Q V;have Q:¬(k:Int)<(w.length:Int):=Q;have V:i64.wrap (q-(K:Int))=0:=V;rw[hw2] at V;have M:=M (by omega);have U:=U (by omega)
  have e3:((imin (i64.wrap (gt+(K:Int))) 1099511627776,(gr,gop,gat,gnmi),d,gs1,gs2,gs3),o)=Qdr (H,(C,E,y,B,D),w,F) (tm,(r,op,at_,O),ds,bd,W,P) l (N:Int):=by
   rw[heM,M,show(N:Int).toNat=j+K by omega,Qf7,←hi,Qf6,U,Jd]
  exact .mk [] [3,4] _ R R R R R (QwO e3) (Qei (p:=((imin (i64.wrap (gt+(K:Int))) 1099511627776,(gr,gop,gat,gnmi),d,gs1,gs2,gs3),o)) e3 he.symm)
 ·rename_i Q V;have Q:¬(k:Int)<(w.length:Int):=Q;rw[M (by omega)];have hb2:(qiM (H,(C,E,y,B,D),w,F) (gt,(r1,op1,at1,nmi1),ds1,bd1,ba1,bdt1) l q).2.2.1.length≤12:=by rw[←hqm.1.1.l];exact hbl
  refine⟨⟨⟨by omega,fun x hx=>?_⟩,S.2.1,hbd⟩,hqm.1.2,fun _=>⟨L,hqm.1.1⟩⟩;have hx:=hqm.2 x hx;have:=hx.1.2;constructor<;>omega
 ·rename_i Q V;have Q:¬(k:Int)<(w.length:Int):=Q;rw[M (by omega)]
  have hcl:(QqF (H,(C,E,y,B,D),w,F) (qiM (H,(C,E,y,B,D),w,F) (gt,(r1,op1,at1,nmi1),ds1,bd1,ba1,bdt1) l q) l).2.length≤w.length:=by
   unfold QqF;split
   ·exact QbG _ _ _ _
   ·exact YR _
  have h7:j*w.length≤100000*12:=Nat.mul_le_mul (by omega) hbl;omega
 ·rename_i Q V;have Q:¬(k:Int)<(w.length:Int):=Q;have V:¬i64.wrap (q-(K:Int))=0:=V;rw[hw2] at V;have M:=M (by omega);have hw3:i64.wrap (i64.wrap (q-(K:Int))-1)=q-K-1:=by rw[hw2];exact w64 (by omega) (by omega)
  have hcy:QqF (H,(C,E,y,B,D),w,F) (qiM (H,(C,E,y,B,D),w,F) (gt,(r1,op1,at1,nmi1),ds1,bd1,ba1,bdt1) l q) l=Qs (H,(C,E,y,B,D),w,F) (qiM (H,(C,E,y,B,D),w,F) (gt,(r1,op1,at1,nmi1),ds1,bd1,ba1,bdt1) l q) l:=Yf hqm.1.1.l.symm
  have hrun:((QqF (H,(C,E,y,B,D),w,F) (imin (i64.wrap (gt+(K:Int))) 1099511627776,(gr,gop,gat,gnmi),d,gs1,gs2,gs3) l).1,o++(QqF (H,(C,E,y,B,D),w,F) (imin (i64.wrap (gt+(K:Int))) 1099511627776,(gr,gop,gat,gnmi),d,gs1,gs2,gs3) l).2)=Qbz (H,(C,E,y,B,D),w,F) l (j+(K+1)) ((tm,(r,op,at_,O),ds,bd,W,P),[]):=by
   rw[M,hcy,Qf7,←hi,Qf6,hqn (by omega)]
  apply Yw (_,(QqF (H,(C,E,y,B,D),w,F) (imin (i64.wrap (gt+(K:Int))) 1099511627776,(gr,gop,gat,gnmi),d,gs1,gs2,gs3) l).1,o++(QqF (H,(C,E,y,B,D),w,F) (imin (i64.wrap (gt+(K:Int))) 1099511627776,(gr,gop,gat,gnmi),d,gs1,gs2,gs3) l).2);refine Yo ?_ (Yo ?_ (Le.k [] [0,1,2,5,7] ?hh))
  case hh=>repeat' constructor
  ·refine⟨j+(K+1),?_,by omega,hrun⟩;show i64.wrap (i64.wrap (q-(K:Int))-1)=(N:Int)-((j+(K+1):Nat):Int);rw[hw3];omega
  ·show(i64.wrap (i64.wrap (q-(K:Int))-1)).toNat<q.toNat;rw[hw3];omega
theorem QwS{b:Bd}{l:List Inp}{m:Mach}(h:0≤m.1∧m.1≤1099511627776):∀k:Nat,(Qbz b l k (m,[])).1.1=min (m.1+k) 1099511627776
 |0=>by
  show m.1=min (m.1+(0:Nat)) 1099511627776;omega
 |k+1=>by
  have ih:=QwS (b:=b) (l:=l) h k;rw[Qa6];show Qcg (Qbz b l k (m,[])).1.1=_;rw[ih,QmV (by omega)];omega
def QH5:PSpec:=⟨[gBd,gM,gIn,gi],fun(b,m,l,n,_)=>(some (QER b m l),.tup [.agg (Qsu (Qdr b m l n).1),.c (.own 0),I1 (QbH b m l n)],[.arr Qv (Qdr b m l n).2])⟩
theorem Qlc:G0 32 QH5.spec :=
 QR.frz QES [0] [1] fun(b,m,l,n,_) a=>⟨a,rfl,rfl,rfl,rfl,rfl⟩
def QH6:PSpec:=⟨[gBd,gM,gIn,gi],fun(b,m,l,n,_)=>(some (Qz9 b m l),.tup [.agg (Qsu (Qdr b m l n).1),.c (.own 0),I1 (QbH b m l n)],[.arr Qv (Qdr b m l n).2])⟩
theorem Qld:G0 28 QH6.spec :=
 QR.frz Qwv [0] [1] fun(b,m,l,n,_) a=>⟨a,rfl,rfl,rfl,rfl,rfl⟩
theorem QAv{b:Bd}(i:bd gBd.t b≤1048576){c:Cv}(n:c∈b.2.2.1):List.length c.2.2.2.2≤1048576:=by
 have a:=Qn8 (bd Qe) n;have e:bd gBd.t b=bd .str b.1+(bd QDt b.2.1+(((List.map (bd Qe) b.2.2.1).sum+1)+bd (.sl Qo) b.2.2.2)):=rfl;have e2:bd Qe c=bd .str c.1+(1+(1+(1+((List.map (bd (.int .u8)) c.2.2.2.2).sum+1)))):=rfl;rw[Qf3] at e2;omega
theorem Qw2(d:Dv):bd Qh d=(List.length d.1+1)+(List.length d.2+1):=by
 have e:bd Qh d=((List.map (bd (.int .i64)) d.1).sum+1)+((List.map (bd (.int .u8)) d.2).sum+1):=rfl;rw[Qf3,Qf3] at e;exact e
theorem Qw3{α:Type}(m:α→Nat)(f:∀x,2≤m x):∀l:List α,2*l.length≤(l.map m).sum
 | []=>YE _
 |y::r=>by
  rw[Jb,List.sum_cons,Yx];have:=Qw3 m f r;have:=f y;omega
theorem QiT{b:Bd}{m:Mach}(a:Wf gBd.t b)(g:Wf Qt m)(i:bd gBd.t b≤1048576)(f:bd Qt m≤1048576)(h:b.2.2.1.length=m.2.2.1.length):MOk 1118576 b m∧m.2.2.1.length*(1118576+200)≤1099511627776:=by
 have e:bd Qt m=1+(bd QDu m.2.1+(((List.map (bd Qh) m.2.2.1).sum+1)+(1+(1+1)))):=rfl;have p:=QCb a;refine⟨⟨by decide,by decide,fun c n=>⟨(p.2 c n).1,?_⟩,fun d j=>⟨QAN (g.2.2.1.2 d j).2.2,?_⟩,h⟩,?_⟩
 ·have:=QAv i n;omega
 ·have h4:=Qn8 (bd Qh) j;rw[Qw2] at h4;omega
 ·have h5:=Qw3 (bd Qh) (fun d=>by rw[Qw2];omega) m.2.2.1;omega
theorem Qw4{b:Bd}{m:Mach}{l:List Inp}(a:Wf gBd.t b)(g:Wf Qt m)(p:Wf (.sl Qv) l)(i:bd gBd.t b≤1048576)(f:bd Qt m≤1048576):MrsP b m l:=by
 have gm:QcY m∧Qm3 m:=⟨QAa g f,fun d j=>QAN (g.2.2.1.2 d j).2.2⟩
 have ht:Qbc b.2.1 m.2.1:=QAb g.2.1.1.1 a.2.1;refine⟨⟨QE4 a,QE5 p⟩,QiO gm.1,ht,gm,fun h=>⟨_,(QiT a g i f h).1⟩,fun h k=>?_⟩;obtain⟨k1,k2⟩:=QiT a g i f h;exact(QmT k1 k2 ht (QEF a.2.1) gm k).1
end Go.Proofs.YtofgbclopbmlcaaGreat

