/- Part 46 of the proof. Conditions: none. -/
import Derived.Test.YtofgbclopbmlcaaGreatG45
import Derived.Test.YtofgbclopbmlcaaGreatG44
import Derived.Test.YtofgbclopbmlcaaGreatG37
import Derived.Test.YtofgbclopbmlcaaGreatG22
namespace Go.Proofs.YtofgbclopbmlcaaGreat
open Go.IntKind (i64)
set_option maxHeartbeats 8000000
open Go.Fw
set_option linter.unusedVariables false
set_option linter.unusedSimpArgs false
set_option linter.constructorNameAsVariable false
set_option maxRecDepth 100000
structure QrsP(b:Bd)(m:Mach)(l:List Inp):Prop where
 h:MrsP b m l
 i:∀x∈l,Q1 x.1
 L:b.2.2.1.length=m.2.2.1.length→∃L,MOk L b m∧L≤140737488351232
theorem QrsP.qrn{b:Bd}{m:Mach}{l:List Inp}(h:QrsP b m l):QER b m l:=⟨⟨h.h.mrn,h.i⟩,fun he=>h.L (MrsP.len he)⟩
def rfM(b:Bd)(l:List Inp)(m0:Mach)(k:Nat):Mach:=(Qbz b l k (m0,[])).1
def rfO(b:Bd)(l:List Inp)(m0:Mach)(j k:Nat):List Inp:=(Qbz b l k (rfM b l m0 j,[])).2
theorem QqM(b:Bd)(l:List Inp)(m0:Mach)(j k:Nat):Qbz b l k (rfM b l m0 j,[])=(rfM b l m0 (j+k),rfO b l m0 j k):=by
 have h:Qbz b l (j+k) (m0,[])=Qbz b l k (Qbz b l j (m0,[])):=Qf7 b l j k (m0,[]);have a:=Qf6 b l k (Qbz b l j (m0,[]))
 have p:rfM b l m0 (j+k)=(Qbz b l k (rfM b l m0 j,[])).1:=by
  show(Qbz b l (j+k) (m0,[])).1=_;rw[h,a];rfl
 rw[p];rfl
theorem QET(b:Bd)(l:List Inp)(m0:Mach)(j k:Nat):rfM b l (rfM b l m0 j) k=rfM b l m0 (j+k):=by
 show(Qbz b l k (rfM b l m0 j,[])).1=_;rw[QqM]
theorem QwT(b:Bd)(l:List Inp)(m0:Mach)(j i k:Nat):rfO b l m0 j (i+k)=rfO b l m0 j i++rfO b l m0 (j+i) k:=by
 show(Qbz b l (i+k) (rfM b l m0 j,[])).2=_;rw[Qf7,QqM,Qf6,QqM]
def mkF(b:Bd)(l:List Inp)(m0:Mach)(E j:Nat):List Mach:=(List.range (j/E+1)).map fun i=>rfM b l m0 (i*E)
theorem QEU(b:Bd)(l:List Inp)(m0:Mach)(E j:Nat):(mkF b l m0 E j).length=j/E+1:=by unfold mkF;simp
theorem QwU(b:Bd)(l:List Inp)(m0:Mach)(E j:Nat){i:Nat}(h:i≤j/E):(mkF b l m0 E j).getD i (dflt Qt)=rfM b l m0 (i*E):=by
 unfold mkF;rw[Yd,Jc,List.getElem?_range (by omega)];rfl
theorem QAl(b:Bd)(l:List Inp)(m0:Mach){E j j':Nat}(h:j/E=j'/E):mkF b l m0 E j=mkF b l m0 E j':=by unfold mkF;rw[h]
theorem QAm(b:Bd)(l:List Inp)(m0:Mach){E j j':Nat}(h:j'/E=j/E+1)(a:j'=(j/E+1)*E):mkF b l m0 E j'=mkF b l m0 E j++[rfM b l m0 j']:=by
 unfold mkF;rw[h,List.range_succ (n:=j/E+1),List.map_append];show _++[rfM b l m0 ((j/E+1)*E)]=_;rw[←a]
theorem QAn(b:Bd)(l:List Inp)(m0:Mach){E j j':Nat}(h:j'/E≤j/E):(mkF b l m0 E j).take (j'/E+1)=mkF b l m0 E j':=by
 unfold mkF;rw[←List.map_take,List.take_range,Nat.min_eq_left (by omega)]
theorem Qoc{b:Bd}{m m':Mach}{l:List Inp}(h:QN b m l=0)(hl:m'.2.2.1.length=m.2.2.1.length)(ht:0≤m'.1∧m'.1≤1099511627776):QN b m' l=0:=by
 obtain⟨d,a,p,w⟩:=QaT h;unfold QN at h ⊢;rw[Yb (fun c=>c d),Yb (fun c=>c a),Yb (by omega)] at h;rw[Yb (fun c=>c d),Yb (fun c=>c (hl.trans a)),Yb (by omega)];exact h
theorem Qsz{b:Bd}{m:Mach}{l:List Inp}(h:QN b m l=0):QN b m []=0:=by
 obtain⟨d,a,p,w⟩:=QaT h;unfold QN;rw[Yb (fun c=>c d),Yb (fun c=>c a),Yb (by omega),Yb (by decide)];rfl
theorem QrsP.at{b:Bd}{m0:Mach}{l:List Inp}(h:QrsP b m0 l)(g:QN b m0 l=0)(k:Nat):QrsP b (rfM b l m0 k) l∧QN b (rfM b l m0 k) l=0:=by
 obtain⟨d,a,p,w⟩:=QaT g;obtain⟨L,u,hL⟩:=h.L a.symm;have f:=Qej (l:=l) u h.h.t k;have ht:=QmX (b:=b) (l:=l) (m:=m0) p k;have hg:=h.h.gr a.symm k;refine⟨⟨⟨h.h.s,QiO hg.1,f.2.1,hg,fun _=>⟨L,f.1⟩,fun _ j=>?_⟩,h.i,fun _=>⟨L,f.1,hL⟩⟩,Qoc g (f.1.l.symm.trans a.symm) ht⟩;have e:=QET b l m0 k j;show QcY (rfM b l (rfM b l m0 k) j)∧Qm3 (rfM b l (rfM b l m0 k) j);rw[e];exact h.h.gr a.symm _
theorem Qhr{b:Bd}{m0:Mach}{l:List Inp}(h:0≤m0.1∧m0.1≤1099511627776){k:Nat}(hk:m0.1+k≤1099511627776):(rfM b l m0 k).1=m0.1+k:=by
 have:=QwS (b:=b) (l:=l) h k;show(Qbz b l k (m0,[])).1.1=_;rw[this];omega
structure TpOk(b:Bd)(l:List Inp)(ms:List Mach)(nw:Mach)(ev:Int)(m0:Mach)(E j:Nat):Prop where
 q:QrsP b m0 l
 s:QN b m0 l=0
 e:ev=(E:Int)
 e1:1≤E
 e2:E≤100000
 ms:ms=mkF b l m0 E j
 nw:nw=rfM b l m0 j
 t:m0.1+j≤1099511627776
 jj:j≤100000
 k:j/E≤1000
theorem Qod{b:Bd}{m0:Mach}{l:List Inp}(h:QrsP b m0 l)(g:QN b m0 l=0)(j:Nat){n:Int}(h0:0≤n)(d:n≤100000):QbH b (rfM b l m0 j) l n=0∧Qdr b (rfM b l m0 j) l n=(rfM b l m0 (j+n.toNat),rfO b l m0 j n.toNat):=by
 obtain⟨k1,k2⟩:=h.at g j
 have e:QbH b (rfM b l m0 j) l n=0:=by
  unfold QbH;rw[Yb (fun c=>c k2),Yb (by omega),Yb (by omega)]
 refine⟨e,?_⟩;have:Qdr b (rfM b l m0 j) l n=Qbz b l n.toNat (rfM b l m0 j,[]):=Yf e;rw[this,QqM]
theorem Qoe{b:Bd}{m0:Mach}{l:List Inp}(h:QrsP b m0 l)(g:QN b m0 l=0)(j k:Nat):(rfO b l m0 j k).length≤k*12:=by
 obtain⟨d,a,p,w⟩:=QaT g;obtain⟨L,u,hL⟩:=h.L a.symm;have f:=Qej (l:=l) u h.h.t j;have r:=(Qej (l:=l) f.1 f.2.1 k).2.2;exact YG r (Nat.mul_le_mul (YE _) (Qho d).1)
def QMm(x:TpX):Prop:=QrsP x.b.v x.m.v x.l∧QN x.b.v x.m.v x.l=0
noncomputable def QMn:WSpec:=⟨TpX,fun x=>[.c (.ptr 0 0)],fun x=>[.var (tpC x.b x.l x.m x.ev),.arr Qt x.ms],Qzy,
 fun⟨⟨D,u,y,q,t,w,E,C⟩,l,ms,⟨tm,r,op,at_,a,ds,bd,p,j⟩,ev,n⟩ =>
  (some (QMm ⟨⟨D,u,y,q,t,w,E,C⟩,l,ms,⟨tm,r,op,at_,a,ds,bd,p,j⟩,ev,n⟩),.agg (Qsu (tm,(r,op,at_,a),ds,bd,p,j)),
    [some (.var (tpC ⟨D,u,y,q,t,w,E,C⟩ l ⟨tm,r,op,at_,a,ds,bd,p,j⟩ ev)),some (.arr Qt ms)],[])⟩
theorem QrsP.nil{b:Bd}{m:Mach}{l:List Inp}(h:QrsP b m l)(H:QN b m l=0):Qz9 b m []:=by
 have e:QbH b m l 0=0:=by unfold QbH;rw[Yb (fun K=>K H),Yb (by omega),Yb (by omega)]
 exact⟨⟨h.h.mrn.1.1,YR _,h.h.mrn.1.2.2⟩,fun _=>h.h.mrn.2.1 e,fun _=>h.h.mrn.2.2 e⟩
theorem QEV{b:Bd}{m:Mach}{l:List Inp}(H:QN b m l=0):Qdr b m [] 0=(m,[]):=by
 have e:QbH b m [] 0=0:=by unfold QbH;rw[Yb (fun K=>K (Qsz H)),Yb (by omega),Yb (by omega)]
 exact Yf e
theorem Qlf:G0 42 QMn.spec:=by
 have B:S0 _:=Qa Qld (Qb (T:=tree));have G:=tabs B Qc;refine QMn.gd G B Tryz.func42 (fun _ _ _ h=>Qqm h) fun(x:TpX) J=>?_
 obtain⟨⟨D,u,y,q,t,w,E,C⟩,l,ms,⟨tm,r,op,at_,a,ds,bd,p,j⟩,ev,n⟩:=x;obtain⟨hp,H⟩:QMm ⟨⟨D,u,y,q,t,w,E,C⟩,l,ms,⟨tm,r,op,at_,a,ds,bd,p,j⟩,ev,n⟩:=J _ rfl;clear J;have h1:Qz9 (D,(u,y,q,t,w),E,C) (tm,(r,op,at_,a),ds,bd,p,j) []:=hp.nil H;have h2:Qdr (D,(u,y,q,t,w),E,C) (tm,(r,op,at_,a),ds,bd,p,j) [] 0=((tm,(r,op,at_,a),ds,bd,p,j),[]):=QEV H
 repeat' first|(apply Ea;conv=>whnf)|apply Eb|apply Ec|apply Ed|apply Ee|(apply Ei;intro _)|apply Ef G B
 all_goals(try dsimp only[Qf] at *)
 all_goals clear G B
 all_goals first
  |exact h1
  |skip
 ·exact .k [] [0,1] _ rfl (Yv (fun z:Mach×List Inp=>AV.agg (Qsu z.1)) h2)
noncomputable def QMo:WSpec:=⟨TpX,fun x=>[.c (.ptr 0 0)],fun x=>[.var (tpC x.b x.l x.m x.ev),.arr Qt x.ms],Qzy,
 fun⟨⟨D,u,y,q,t,w,E,C⟩,l,ms,⟨tm,r,op,at_,a,ds,bd,p,j⟩,ev,n⟩ =>
  (some (List.length ms≤1001),.cell (.own 2),
    [some (.var (tpC ⟨D,u,y,q,t,w,E,C⟩ l ⟨tm,r,op,at_,a,ds,bd,p,j⟩ ev)),some (.arr Qt ms)],[.arr (.int .i64) (ms.map fun m=>m.1)])⟩
theorem QAo{α β:Type}(f:α→β)(d:α){l:List α}{k:Nat}(h:k<l.length):(l.take (k+1)).map f=(l.take k).map f++[f (l.getD k d)]:=by
 rw[List.take_add_one,Ye h,List.map_append,Yd,Ye h];rfl
theorem QmZ:G0 43 QMo.spec:=by
 have B:S0 _:=(Qb (T:=tree))
 have G:=tabs B Qc;refine QMo.gd G B Tryz.func43 (fun _ _ _ h=>Qqm h) fun(x:TpX) J=>?_
 obtain⟨⟨D,u,y,q,t,w,E,C⟩,l,ms,⟨tm,r,op,at_,a,ds,bd,p,j⟩,ev,n⟩:=x;have hl:List.length ms≤1001:=J _ rfl;clear J
 repeat' first|(apply Ea;conv=>whnf)|apply Eb|apply Ec|apply Ed|apply Ee|(apply Ei;intro _)|apply Ef G B
 all_goals(try dsimp only[Qf] at *)
 refine QA G B (A:=List Int) ms.length (fun i s=>St.mk (E3 ((.cell (.own 2))::E5 ((.cell (.own 1))::(I ms.length)::(I i)::E10 [])))
  [some (.var (tpC ⟨D,u,y,q,t,w,E,C⟩ l ⟨tm,r,op,at_,a,ds,bd,p,j⟩ ev)),some (.arr Qt ms),some (.arr (.int .i64) s)])
  (fun k s=>s=(ms.take k).map fun m=>m.1) [] (.trans (Le.nil 3 (.int .i64) rfl) (Le.k [] [0,1,2] ?_)) rfl fun k s hk F=>?_
 ·repeat' constructor
 have hsl:s.length≤1001:=by
  have F:s=(ms.take k).map fun m=>m.1:=F
  rw[F,Jf,Yq];omega
 repeat' first|(apply Ea;conv=>whnf)|apply Eb|apply Ec|apply Ed|apply Ee|(apply Ei;intro _)|apply Ef G B
 all_goals(try dsimp only[Qf] at *)
 all_goals clear G B
 ·rename_i g;have g:(k:Int)<(ms.length:Int):=g;show 0≤(k:Int)∧(k:Int)<(ms.length:Int);omega
 ·rename_i g;have g:(k:Int)<(ms.length:Int):=g;show(k:Int).toNat<ms.length;omega
 ·show(s.length+1)*8≤140737488355328;omega
 ·rename_i g;have g:(k:Int)<(ms.length:Int):=g;apply Ex _ [] [0,1,5]
  ·repeat' constructor
  ·omega
  ·exact QJ (by omega)
  have F:s=(ms.take k).map fun m=>m.1:=F
  rw[QAo (fun m:Mach=>m.1) (dflt Qt) (show k<ms.length by omega),←F];rfl
 ·rename_i g;have g:¬(k:Int)<(ms.length:Int):=g;have F:s=(ms.take k).map fun m=>m.1:=F
  rw[Yh (by omega)] at F;exact .mk [] [0,1,2] _ R R R R R (Yv (fun z:List Int=>[some (Blk.var (tpC ⟨D,u,y,q,t,w,E,C⟩ l ⟨tm,r,op,at_,a,ds,bd,p,j⟩ ev)),some (Blk.arr Qt ms),some (.arr (.int .i64) z)]) F) rfl
@[reducible] def tpK(i:Nat)(b:BdX)(l:List Inp)(m:Mach)(ev:Int):List Cell:=[.imm (.string b.bn),.imm (.string b.un),.ro Qap b.ui,.ro Qp b.ur,.ro Qp b.uq,.ro Qp b.um,.ro Qe b.bc,.ro Qo b.bw,.ro Qv l,.own i,iv .i64 m.1,.run .i64 9 m.2.1.1,iv .i64 m.2.1.2.1,iv .i64 m.2.1.2.2.1,bv m.2.1.2.2.2,.ro Qh m.2.2.1,iv .i64 m.2.2.2.1,iv .i64 m.2.2.2.2.1,iv .i64 m.2.2.2.2.2,iv .i64 ev]
abbrev m0F(ms:List Mach):Mach:=ms.getD 0 (dflt Qt)
def bkJ(ms:List Mach)(n:Int):Nat:=(n-(m0F ms).1).toNat
theorem TpOk.m0{b:Bd}{l:List Inp}{ms:List Mach}{nw:Mach}{ev:Int}{m0:Mach}{E j:Nat}(h:TpOk b l ms nw ev m0 E j):m0F ms=m0∧ms.length=j/E+1∧nw.1=m0.1+j∧(0≤m0.1∧m0.1≤1099511627776):=by
 have Z:0≤m0.1∧m0.1≤1099511627776:=(QaT h.s).2.2.1;refine⟨?_,by rw[h.ms,QEU],by rw[h.nw];exact Qhr Z h.t,Z⟩;show ms.getD 0 _=_;rw[h.ms,QwU _ _ _ _ _ (YR _),Nat.zero_mul];rfl
theorem TpOk.get{b:Bd}{l:List Inp}{ms:List Mach}{nw:Mach}{ev:Int}{m0:Mach}{E j:Nat}(h:TpOk b l ms nw ev m0 E j){k:Nat}(hk:k≤j/E):ms.getD k (dflt Qt)=rfM b l m0 (k*E)∧(ms.getD k (dflt Qt)).1=m0.1+(k*E:Nat)∧k*E≤j:=by
 have Z:0≤m0.1∧m0.1≤1099511627776:=(QaT h.s).2.2.1;have h4:k*E≤j:=YG (YL E hk) (Nat.div_mul_le_self j E);have e:ms.getD k (dflt Qt)=rfM b l m0 (k*E):=by rw[h.ms];exact QwU _ _ _ _ _ hk
 exact⟨e,by rw[e];exact Qhr Z (by have:=h.t;omega),h4⟩
def QMp(x:TpX):Prop:=(∃m0 E j,TpOk x.b.v x.l x.ms x.m.v x.ev m0 E j)∧(x.n<(m0F x.ms).1∨x.n>x.m.tm)
noncomputable def QMq:WSpec:=⟨TpX,fun x=>[.c (.ptr 0 0),I1 x.n],fun x=>[.var (tpC x.b x.l x.m x.ev),.arr Qt x.ms],QrY,
 fun⟨⟨A,f,w,a,d,u,B,y⟩,l,ms,⟨tm,r,op,at_,C,ds,bd,K,D⟩,ev,n⟩ =>
  (some (QMp ⟨⟨A,f,w,a,d,u,B,y⟩,l,ms,⟨tm,r,op,at_,C,ds,bd,K,D⟩,ev,n⟩),I 19,
    [some (.var (tpC ⟨A,f,w,a,d,u,B,y⟩ l ⟨tm,r,op,at_,C,ds,bd,K,D⟩ ev)),some (.arr Qt ms)],[])⟩
theorem QiR:G0 40 QMq.spec:=by
 have L:S0 _:=(Qb (T:=tree))
 have O:=tabs L Qc;refine QMq.gd O L Tryz.func40 (fun _ _ _ h=>Qhk h) fun(x:TpX) U=>?_
 obtain⟨⟨A,f,w,a,d,u,B,y⟩,l,ms,⟨tm,r,op,at_,C,ds,bd,K,D⟩,ev,n⟩:=x;obtain⟨⟨m0,E,j,G⟩,hn⟩:QMp ⟨⟨A,f,w,a,d,u,B,y⟩,l,ms,⟨tm,r,op,at_,C,ds,bd,K,D⟩,ev,n⟩:=U _ rfl;clear U;have Y:1≤ms.length:=by rw[G.m0.2.1];exact Jm (YR _)
 have hn:n<(ms.getD 0 (dflt Qt)).1∨n>tm:=hn
 repeat' first|(apply Ea;conv=>whnf)|apply Eb|apply Ec|apply Ed|apply Ee|(apply Ei;intro _)|apply Ef O L
 all_goals(try dsimp only[Qf] at *)
 all_goals first
  |(show(0:Int)≤0∧(0:Int)<(ms.length:Int);omega)
  |(show Int.toNat 0<ms.length;omega)
  |exact .k [] [0,1] _ R R
  |skip
 rename_i M P;have M:¬n<(ms.getD 0 (dflt Qt)).1:=M;exact YD (hn.resolve_left M) P
def QMr(x:TpX):Prop:=(∃m0 E j,TpOk x.b.v x.l x.ms x.m.v x.ev m0 E j)∧(m0F x.ms).1≤x.n∧x.n≤x.m.tm
noncomputable def QMs:WSpec:=⟨TpX,fun x=>[.c (.ptr 0 0),I1 x.n],fun x=>[.var (tpC x.b x.l x.m x.ev),.arr Qt x.ms],QrY,
 fun⟨⟨A,f,w,a,d,u,B,y⟩,l,ms,⟨tm,r,op,at_,C,ds,bd,K,D⟩,ev,n⟩ =>
  (some (QMr ⟨⟨A,f,w,a,d,u,B,y⟩,l,ms,⟨tm,r,op,at_,C,ds,bd,K,D⟩,ev,n⟩),I 0,
    [some (.var (tpK 2 ⟨A,f,w,a,d,u,B,y⟩ l (rfM (A,(f,w,a,d,u),B,y) l (m0F ms) (bkJ ms n)) ev)),none],[.arr Qt (ms.take (bkJ ms n/ev.toNat+1))])⟩
theorem QH9{b:BdX}{l:List Inp}{ev:Int}{p q:Mach}{xs ys:List Mach}(h:p=q)(h2:xs=ys):[some (Blk.var (tpK 2 b l p ev)),none,some (.arr Qt xs)]=[some (Blk.var (tpK 2 b l q ev)),none,some (.arr Qt ys)]:=by rw[h,h2]
theorem QAq:G0 40 QMs.spec:=by
 have L:S0 _:=Qa Qlc (Qb (T:=tree));have O:=tabs L Qc;refine QMs.gd O L Tryz.func40 (fun _ _ _ h=>Qhk h) fun(x:TpX) U=>?_
 obtain⟨⟨A,f,w,a,d,u,B,y⟩,l,ms,⟨tm,r,op,at_,C,ds,bd,K,D⟩,ev,n⟩:=x;obtain⟨⟨m0,E,j,G⟩,W,V⟩:QMr ⟨⟨A,f,w,a,d,u,B,y⟩,l,ms,⟨tm,r,op,at_,C,ds,bd,K,D⟩,ev,n⟩:=U _ rfl;clear U;have G:TpOk (A,(f,w,a,d,u),B,y) l ms (tm,(r,op,at_,C),ds,bd,K,D) ev m0 E j:=G;obtain⟨e0,Y,hm,Z⟩:=G.m0;have hm:tm=m0.1+j:=hm;have e0:ms.getD 0 (dflt Qt)=m0:=e0;have hJ:bkJ ms n=(n-m0.1).toNat:=by unfold bkJ;rw[show m0F ms=m0 from e0]
 have W:m0.1≤n:=by have h:(ms.getD 0 (dflt Qt)).1≤n:=W;rwa[e0] at h
 have V:n≤tm:=V;obtain⟨J,hJn⟩:∃J:Nat,n=m0.1+J:=⟨(n-m0.1).toNat,by omega⟩
 have hJ:bkJ ms n=J:=by omega
 have hev:ev.toNat=E:=by have:=G.e;omega
 have hE:=G.e1;have hk:=G.k;have hJE:J/E≤j/E:=Nat.div_le_div_right (by omega);have hl1:1≤ms.length:=by rw[Y];exact Jm (YR _)
 have hl2:ms.length≤1001:=by rw[Y];exact Jm hk
 have hu:rfM (A,(f,w,a,d,u),B,y) l (m0F ms) (bkJ ms n)=rfM (A,(f,w,a,d,u),B,y) l m0 J∧ms.take (bkJ ms n/ev.toNat+1)=ms.take (J/E+1):=by
  rw[hJ,hev,show m0F ms=m0 from e0];exact⟨rfl,rfl⟩
 repeat' first|(apply Ea;conv=>whnf)|apply Eb|apply Ec|apply Ed|apply Ee|(apply Ei;intro _)|apply Ef O L
 all_goals(try dsimp only[Qf] at *)
 ·show(0:Int)≤0∧(0:Int)<(ms.length:Int);omega
 ·show Int.toNat 0<ms.length;omega
 ·show Int.toNat 0<ms.length;omega
 ·rename_i M;have M:n<(ms.getD 0 (dflt Qt)).1:=M;rw[e0] at M;omega
 ·rename_i M P;have P:n>tm:=P;omega
 refine Q4 O L (X:=Int) (fun i=>St.mk ((.cell (.ptr 0 0))::(I n)::E3 ((I i)::E40 (E20 (E10 (E5 (E3 (E1 [])))))))
  [some (.var (tpC ⟨A,f,w,a,d,u,B,y⟩ l ⟨tm,r,op,at_,C,ds,bd,K,D⟩ ev)),some (.arr Qt ms)])
  (fun i=>∃k:Nat,i=(k:Int)∧J/E≤k∧k≤j/E) (fun i=>i.toNat) (i64.wrap ((ms.length:Int)-1)) (Le.k [] [0,1] ?_) ⟨j/E,?_,hJE,YE _⟩ fun i hi=>?_
 ·repeat' constructor
 ·rw[w64 (by omega) (by omega),Y];omega
 obtain⟨k,rfl,hk1,N⟩:=hi;obtain⟨gk1,gk2,gk3⟩:=G.get N;have hkl:k<ms.length:=by rw[Y];exact Nat.lt_succ_of_le N
 have hw:i64.wrap ((k:Int)+1)=k+1:=w64 (by omega) (by omega);have Q:i64.wrap ((k:Int)-1)=k-1:=w64 (by omega) (by omega);have F:List.take (i64.wrap ((k:Int)+1)).toNat ms=ms.take (k+1):=by rw[hw];exact Yv (fun z=>List.take z ms) (by omega)
 have H:(ms.take (k+1)).length=k+1:=by rw[Yq];omega
 have S:(ms.take (k+1)).getD k (dflt Qt)=rfM (A,(f,w,a,d,u),B,y) l m0 (k*E):=by
  rw[←gk1,Yd,Yd,List.getElem?_take_of_lt (Nat.lt_succ_self k)]
 have hqr:QER (A,(f,w,a,d,u),B,y) (rfM (A,(f,w,a,d,u),B,y) l m0 (k*E)) l:=(G.q.at G.s (k*E)).1.qrn
 repeat' first|(apply Ea;conv=>whnf)|apply Eb|apply Ec|apply Ed|apply Ee|(apply Ei;intro _)|apply Ef O L
 all_goals(try dsimp only[Qf] at *)
 ·show(0:Int)≤(k:Int)∧(k:Int)<(ms.length:Int);omega
 ·show(k:Int).toNat<ms.length;omega
 ·show(k:Int).toNat<ms.length;omega
 ·rename_i g;have g:(ms.getD k (dflt Qt)).1>n:=g;rw[gk2] at g;have P:J<k*E:=by omega
  have g3:J/E<k:=by
   rcases Jp (J/E) k with h|h
   ·exact h
   ·exact YD (YG (YL E h) (Nat.div_mul_le_self J E)) (by omega)
  have g4:k-1+1=k:=by
   have:=YR (J/E);omega
  apply Yw (i64.wrap ((k:Int)-1));refine Yo ?_ (Yo ?_ (Le.k [] [0,1] ?hh))
  case hh=>repeat' constructor
  ·exact⟨k-1,by rw[Q];omega,Nat.le_of_lt_succ (by rw[Nat.succ_eq_add_one,g4];exact g3),YG (Nat.sub_le k 1) N⟩
  ·show(i64.wrap ((k:Int)-1)).toNat<(k:Int).toNat;rw[Q];omega
 ·rw[hw];show(0:Int)≤(k:Int)+1∧(k:Int)+1≤(ms.length:Int);omega
 ·rw[F];show(0:Int)≤(k:Int)∧(k:Int)<((ms.take (k+1)).length:Int);rw[H];omega
 ·rw[F];show(k:Int).toNat<(ms.take (k+1)).length;rw[H];omega
 ·rw[F];show(0:Int)≤(k:Int)∧(k:Int)<((ms.take (k+1)).length:Int);rw[H];omega
 ·rw[F];show(k:Int).toNat<(ms.take (k+1)).length;rw[H];omega
 ·rw[F];show(k:Int).toNat<(ms.take (k+1)).length;rw[H];omega
 ·rw[F];show QER (A,(f,w,a,d,u),B,y) ((ms.take (k+1)).getD k (dflt Qt)) l;rw[S];exact hqr
 ·rename_i g;have g:¬(ms.getD k (dflt Qt)).1>n:=g;rw[gk2] at g;have P:k*E≤J:=by omega
  have g3:k≤J/E:=(Nat.le_div_iff_mul_le (by omega)).2 P;have g4:k=J/E:=Nat.le_antisymm g3 hk1;have hn3:((J-k*E:Nat):Int)=n-(m0.1+(k*E:Nat)):=by omega
  have hrr:Qdr (A,(f,w,a,d,u),B,y) (rfM (A,(f,w,a,d,u),B,y) l m0 (k*E)) l (i64.wrap (n-(rfM (A,(f,w,a,d,u),B,y) l m0 (k*E)).1))=(rfM (A,(f,w,a,d,u),B,y) l m0 J,rfO (A,(f,w,a,d,u),B,y) l m0 (k*E) (J-k*E)):=by
   have e1:(rfM (A,(f,w,a,d,u),B,y) l m0 (k*E)).1=m0.1+(k*E:Nat):=by rw[←gk1];exact gk2
   have hj:=G.jj;rw[e1,w64 (by omega) (by omega),←hn3,(Qod G.q G.s (k*E) (by omega) (by omega)).2];show(rfM _ l m0 (k*E+(J-k*E)),_)=_;rw[show k*E+(J-k*E)=J by omega];rfl
  refine .mk [] [0,1,2] _ R R R R R (QH9 (b:=⟨A,f,w,a,d,u,B,y⟩) (l:=l) (ev:=ev) (p:=(Qdr (A,(f,w,a,d,u),B,y) ((List.take (i64.wrap ((k:Int)+1)).toNat ms).getD k (dflt Qt)) l (i64.wrap (n-((List.take (i64.wrap ((k:Int)+1)).toNat ms).getD k (dflt Qt)).1))).1) ?_ ?_) rfl
  ·rw[F,S,hrr,hu.1]
  ·rw[F,hu.2,←g4]
def goE(ms:List Mach)(tm ev n:Int):Int:=if n<0 then 1 else if n>100000 then 2 else if tm+n-(m0F ms).1>100000∨tm+n>1099511627776∨(tm+n-(m0F ms).1).tdiv ev>1000 then 6 else 0
def goJ(ms:List Mach)(tm:Int):Nat:=(tm-(m0F ms).1).toNat
def QMt(x:TpX):Prop:=(∃m0 E j,TpOk x.b.v x.l x.ms x.m.v x.ev m0 E j)∧goE x.ms x.m.tm x.ev x.n≠0
noncomputable def QMu:WSpec:=⟨TpX,fun x=>[.c (.ptr 0 0),I1 x.n],fun x=>[.var (tpC x.b x.l x.m x.ev),.arr Qt x.ms],QrY,
 fun⟨⟨B,t,w,d,f,u,C,A⟩,l,ms,⟨tm,r,op,at_,G,ds,bd,Z,H⟩,ev,n⟩ =>
  (some (QMt ⟨⟨B,t,w,d,f,u,C,A⟩,l,ms,⟨tm,r,op,at_,G,ds,bd,Z,H⟩,ev,n⟩),.tup [.c (.imm (.slice none 0 0)),I1 (goE ms tm ev n)],
    [some (.var (tpC ⟨B,t,w,d,f,u,C,A⟩ l ⟨tm,r,op,at_,G,ds,bd,Z,H⟩ ev)),some (.arr Qt ms)],[])⟩
theorem QiS{x y:Int}(h:x=y):AV.tup [.c (.imm (.slice none 0 0)),I1 x]=AV.tup [.c (.imm (.slice none 0 0)),I1 y]:=by rw[h]
theorem QIa{ms:List Mach}{tm ev n:Int}(h:n<0):goE ms tm ev n=1:=Yf h
theorem QEX{ms:List Mach}{tm ev n:Int}(h:¬n<0)(P:n>100000):goE ms tm ev n=2:=(Yb h).trans (Yf P)
theorem QAr{ms:List Mach}{tm ev n:Int}(h:¬n<0)(P:¬n>100000)(M:tm+n-(m0F ms).1>100000∨tm+n>1099511627776∨(tm+n-(m0F ms).1).tdiv ev>1000):goE ms tm ev n=6:=((Yb h).trans (Yb P)).trans (Yf M)
theorem QK8{ms:List Mach}{tm ev n:Int}(h:¬n<0)(P:¬n>100000)(M:¬(tm+n-(m0F ms).1>100000∨tm+n>1099511627776∨(tm+n-(m0F ms).1).tdiv ev>1000)):goE ms tm ev n=0:=((Yb h).trans (Yb P)).trans (Yb M)
theorem QEY{ms:List Mach}{tm ev n:Int}(h:goE ms tm ev n=0):¬n<0∧¬n>100000∧¬tm+n-(m0F ms).1>100000∧¬tm+n>1099511627776∧¬(tm+n-(m0F ms).1).tdiv ev>1000:=by
 unfold goE at h;split at h
 ·cases h
 ·split at h
  ·cases h
  ·split at h
   ·cases h
   ·rename_i h1 P M;exact⟨h1,P,fun hh=>M (.inl hh),fun hh=>M (.inr (.inl hh)),fun hh=>M (.inr (.inr hh))⟩
theorem Qof:G0 41 QMu.spec:=by
 have Y:S0 _:=Qa Qlc (Qb (T:=tree));have hT:=tabs Y Qc;refine QMu.gd hT Y Tryz.func41 (fun _ _ _ h=>Qhk h) fun(x:TpX) hq=>?_
 obtain⟨⟨B,t,w,d,f,u,C,A⟩,l,ms,⟨tm,r,op,at_,G,ds,bd,Z,H⟩,ev,n⟩:=x;obtain⟨⟨m0,E,j,D⟩,hn⟩:QMt ⟨⟨B,t,w,d,f,u,C,A⟩,l,ms,⟨tm,r,op,at_,G,ds,bd,Z,H⟩,ev,n⟩:=hq _ rfl;clear hq;have D:TpOk (B,(t,w,d,f,u),C,A) l ms (tm,(r,op,at_,G),ds,bd,Z,H) ev m0 E j:=D;have hl:1≤ms.length:=by rw[D.m0.2.1];exact Jm (YR _)
 have hn:goE ms tm ev n≠0:=hn;have hm:tm=m0.1+j:=D.m0.2.2.1;have M:=D.m0.2.2.2;have hj:=D.jj;have e0:(ms.getD 0 (dflt Qt)).1=m0.1:=Yv (fun z:Mach=>z.1) D.m0.1;have hev:=D.e;have he1:=D.e1;have he2:=D.e2;have ez:(m0F ms).1=m0.1:=e0;have U:¬n<0→¬n>100000→i64.wrap (tm+n)=tm+n:=fun _ _=>w64 (by omega) (by omega)
 have O:¬n<0→¬n>100000→i64.wrap (i64.wrap (tm+n)-(ms.getD (Int.toNat 0) (dflt Qt)).1)=tm+n-(m0F ms).1:=fun a b=>by
  rw[U a b,show(ms.getD (Int.toNat 0) (dflt Qt)).1=m0.1 from e0,ez];exact w64 (by omega) (by omega)
 have hw3:¬n<0→¬n>100000→i64.wrap ((tm+n-(m0F ms).1).tdiv ev)=(tm+n-(m0F ms).1).tdiv ev:=fun a b=>by
  have h1:=Int.tdiv_nonneg (show 0≤tm+n-(m0F ms).1 by omega) (show 0≤ev by omega);have P:=Int.tdiv_le_self ev (show 0≤tm+n-(m0F ms).1 by omega);exact w64 (by omega) (by omega)
 repeat' first|(apply Ea;conv=>whnf)|apply Eb|apply Ec|apply Ed|apply Ee|(apply Ei;intro _)|apply Ef hT Y
 all_goals(try dsimp only[Qf] at *)
 all_goals clear hT Y
 all_goals first
  |(show(0:Int)≤0∧(0:Int)<(ms.length:Int);omega)
  |(show Int.toNat 0<ms.length;omega)
  |(show ev≠0;omega)
  |skip
 ·rename_i g;exact .k [] [0,1] _ rfl (QiS (QIa (show n<0 from g)).symm)
 ·rename_i J F;exact .k [] [0,1] _ rfl (QiS (QEX (show¬n<0 from J) (show n>100000 from F)).symm)
 ·rename_i J F K;have K:i64.wrap (i64.wrap (tm+n)-(ms.getD (Int.toNat 0) (dflt Qt)).1)>100000:=K;rw[O J F] at K;exact .k [] [0,1] _ rfl (QiS (QAr (show¬n<0 from J) (show¬n>100000 from F) (.inl K)).symm)
 ·rename_i J F K S;have S:i64.wrap (tm+n)>1099511627776:=S;rw[U J F] at S;exact .k [] [0,1] _ rfl (QiS (QAr (show¬n<0 from J) (show¬n>100000 from F) (.inr (.inl S))).symm)
 ·rename_i J F K S g5;have g5:i64.wrap ((i64.wrap (i64.wrap (tm+n)-(ms.getD (Int.toNat 0) (dflt Qt)).1)).tdiv ev)>1000:=g5;rw[O J F,hw3 J F] at g5;exact .k [] [0,1] _ rfl (QiS (QAr (show¬n<0 from J) (show¬n>100000 from F) (.inr (.inr g5))).symm)
 ·rename_i J F K S g5;have K:¬i64.wrap (i64.wrap (tm+n)-(ms.getD (Int.toNat 0) (dflt Qt)).1)>100000:=K;have S:¬i64.wrap (tm+n)>1099511627776:=S;have g5:¬i64.wrap ((i64.wrap (i64.wrap (tm+n)-(ms.getD (Int.toNat 0) (dflt Qt)).1)).tdiv ev)>1000:=g5;rw[O J F,hw3 J F] at g5;rw[O J F] at K;rw[U J F] at S;exact YD (QK8 (show¬n<0 from J) (show¬n>100000 from F) (fun h=>h.elim K fun h=>h.elim S g5)) hn
def QMv(x:TpX):Prop:=(∃m0 E j,TpOk x.b.v x.l x.ms x.m.v x.ev m0 E j)∧goE x.ms x.m.tm x.ev x.n=0
noncomputable def QMw:WSpec:=⟨TpX,fun x=>[.c (.ptr 0 0),I1 x.n],fun x=>[.var (tpC x.b x.l x.m x.ev),.arr Qt x.ms],QrY,
 fun⟨⟨B,t,w,d,f,u,C,A⟩,l,ms,⟨tm,r,op,at_,G,ds,bd,Z,H⟩,ev,n⟩ =>
  (some (QMv ⟨⟨B,t,w,d,f,u,C,A⟩,l,ms,⟨tm,r,op,at_,G,ds,bd,Z,H⟩,ev,n⟩),.tup [.c (.own 3),I1 0],
    [some (.var (tpK 2 ⟨B,t,w,d,f,u,C,A⟩ l (rfM (B,(t,w,d,f,u),C,A) l (m0F ms) (goJ ms tm+n.toNat)) ev)),none],
    [.arr Qt (mkF (B,(t,w,d,f,u),C,A) l (m0F ms) ev.toNat (goJ ms tm+n.toNat)),.arr Qv (rfO (B,(t,w,d,f,u),C,A) l (m0F ms) (goJ ms tm) n.toNat)])⟩
theorem QIb{b:BdX}{l:List Inp}{ev:Int}{p q:Mach}{xs ys:List Mach}{us vs:List Inp}(h:p=q)(P:xs=ys)(M:us=vs):[some (Blk.var (tpK 2 b l p ev)),none,some (.arr Qt xs),some (.arr Qv us)]=[some (Blk.var (tpK 2 b l q ev)),none,some (.arr Qt ys),some (.arr Qv vs)]:=by rw[h,P,M]
theorem QIc:G0 41 QMw.spec:=by
 have Y:S0 _:=Qa Qlc (Qb (T:=tree));have hT:=tabs Y Qc;refine QMw.gd hT Y Tryz.func41 (fun _ _ _ h=>Qhk h) fun(x:TpX) hq=>?_
 obtain⟨⟨B,t,w,d,f,u,C,A⟩,l,ms,⟨tm,r,op,at_,G,ds,bd,Z,H⟩,ev,n⟩:=x;obtain⟨⟨m0,E,j,D⟩,hn⟩:QMv ⟨⟨B,t,w,d,f,u,C,A⟩,l,ms,⟨tm,r,op,at_,G,ds,bd,Z,H⟩,ev,n⟩:=hq _ rfl;clear hq;have D:TpOk (B,(t,w,d,f,u),C,A) l ms (tm,(r,op,at_,G),ds,bd,Z,H) ev m0 E j:=D;have hl:1≤ms.length:=by rw[D.m0.2.1];exact Jm (YR _)
 obtain⟨n1,n2,n3,n4,n5⟩:=QEY (show goE ms tm ev n=0 from hn);have hm:tm=m0.1+j:=D.m0.2.2.1;have M:=D.m0.2.2.2;have hj:=D.jj;have e0:(ms.getD 0 (dflt Qt)).1=m0.1:=Yv (fun z:Mach=>z.1) D.m0.1;have hev:=D.e;have he1:=D.e1;have he2:=D.e2;have ez:(m0F ms).1=m0.1:=e0;have U:i64.wrap (tm+n)=tm+n:=w64 (by omega) (by omega)
 have O:i64.wrap (i64.wrap (tm+n)-(ms.getD (Int.toNat 0) (dflt Qt)).1)=tm+n-(m0F ms).1:=by
  rw[U,show(ms.getD (Int.toNat 0) (dflt Qt)).1=m0.1 from e0,ez];exact w64 (by omega) (by omega)
 have hw3:i64.wrap ((tm+n-(m0F ms).1).tdiv ev)=(tm+n-(m0F ms).1).tdiv ev:=by
  have h1:=Int.tdiv_nonneg (show 0≤tm+n-(m0F ms).1 by omega) (show 0≤ev by omega);have P:=Int.tdiv_le_self ev (show 0≤tm+n-(m0F ms).1 by omega);exact w64 (by omega) (by omega)
 have hz3:0≤m0.1∧m0.1≤1099511627776:=M;obtain⟨N,hN⟩:=Yz (show 0≤n by omega);have hNn:n.toNat=N:=by omega
 have hqE:(j+N)/E≤1000:=by
  have e:(tm+n-(m0F ms).1).tdiv ev=(((j+N)/E:Nat):Int):=by
   rw[show tm+n-(m0F ms).1=((j+N:Nat):Int) by omega,hev];rfl
  rw[e] at n5;omega
 have hG:goJ ms tm=j:=by unfold goJ;omega
 have hu:rfM (B,(t,w,d,f,u),C,A) l (m0F ms) (goJ ms tm+n.toNat)=rfM (B,(t,w,d,f,u),C,A) l m0 (j+N)∧mkF (B,(t,w,d,f,u),C,A) l (m0F ms) ev.toNat (goJ ms tm+n.toNat)=mkF (B,(t,w,d,f,u),C,A) l m0 E (j+N)∧rfO (B,(t,w,d,f,u),C,A) l (m0F ms) (goJ ms tm) n.toNat=rfO (B,(t,w,d,f,u),C,A) l m0 j N:=by
  rw[hNn,hG,hev,show m0F ms=m0 from D.m0.1];exact⟨rfl,rfl,rfl⟩
 repeat' first|(apply Ea;conv=>whnf)|apply Eb|apply Ec|apply Ed|apply Ee|(apply Ei;intro _)|apply Ef hT Y
 all_goals(try dsimp only[Qf] at *)
 all_goals first
  |(show(0:Int)≤0∧(0:Int)<(ms.length:Int);omega)
  |(show Int.toNat 0<ms.length;omega)
  |(show ev≠0;omega)
  |skip
 ·rename_i g;exact YD g n1
 ·rename_i J g;exact YD g n2
 ·rename_i J F g;have g:i64.wrap (i64.wrap (tm+n)-(ms.getD (Int.toNat 0) (dflt Qt)).1)>100000:=g;rw[O] at g;exact YD g n3
 ·rename_i J F K g;have g:i64.wrap (tm+n)>1099511627776:=g;rw[U] at g;exact YD g n4
 ·rename_i J F K S g;have g:i64.wrap ((i64.wrap (i64.wrap (tm+n)-(ms.getD (Int.toNat 0) (dflt Qt)).1)).tdiv ev)>1000:=g;rw[O,hw3] at g;exact YD g n5
 refine Q4 hT Y (X:=Int×Mach×List Mach×List Inp) (fun(q,s,ys,o)=>St.mk ((.cell (.ptr 0 0))::(I q)::E3 (E1 ((.cell (.own 3))::E40 (E40 (E40 (E20 (E1 [])))))))
  [some (.var (tpK 2 ⟨B,t,w,d,f,u,C,A⟩ l s ev)),none,some (.arr Qt ys),some (.arr Qv o)])
  (fun(q,s,ys,o)=>∃i:Nat,i≤N∧q=n-i∧s=rfM (B,(t,w,d,f,u),C,A) l m0 (j+i)∧ys=mkF (B,(t,w,d,f,u),C,A) l m0 E (j+i)∧o=rfO (B,(t,w,d,f,u),C,A) l m0 j i) (fun(q,_,_,_)=>q.toNat)
  (n,(tm,(r,op,at_,G),ds,bd,Z,H),ms,[]) (.trans (Le.nil 6 Qv rfl) (.trans (Le.moveH 0 1 R R) (Le.k [] [0,1,3,2] ?_))) ⟨0,YR _,by omega,D.nw,D.ms,rfl⟩ fun(q,s,ys,o) hi=>?_
 ·repeat' constructor
 obtain⟨i,hi,rfl,rfl,rfl,rfl⟩:=hi;have n3':j+N≤100000:=by omega
 have n4':m0.1+(j+N:Nat)≤1099511627776:=by omega
 have hQ:(j+i)/E≤1000:=YG (Nat.div_le_div_right (by omega)) hqE;have hpi:TpOk (B,(t,w,d,f,u),C,A) l (mkF (B,(t,w,d,f,u),C,A) l m0 E (j+i)) (rfM (B,(t,w,d,f,u),C,A) l m0 (j+i)) ev m0 E (j+i):=⟨D.q,D.s,hev,he1,he2,rfl,rfl,by omega,by omega,hQ⟩
 obtain⟨-,L,hrt,-⟩:=hpi.m0;obtain⟨-,hgt,hgE⟩:=hpi.get (YE _)
 have hmod:j+i<((j+i)/E+1)*E:=by
  have h1:=Nat.div_add_mod (j+i) E;have P:=Nat.mod_lt (j+i) (show E>0 by omega);rw[YV,Nat.one_mul,Nat.mul_comm];omega
 have hmul:((j+i)/E+1)*E=(j+i)/E*E+E:=by rw[YV,Nat.one_mul]
 have hwl:(i64.wrap (((mkF (B,(t,w,d,f,u),C,A) l m0 E (j+i)).length:Int)-1))=(((j+i)/E:Nat):Int):=by
  rw[L];generalize(j+i)/E=Q at *;rw[w64 (by omega) (by omega)];omega
 have W:(i64.wrap (((mkF (B,(t,w,d,f,u),C,A) l m0 E (j+i)).length:Int)-1)).toNat=(j+i)/E:=by rw[hwl];exact Int.toNat_natCast _
 have hlast:i64.wrap (((mkF (B,(t,w,d,f,u),C,A) l m0 E (j+i)).getD (i64.wrap (((mkF (B,(t,w,d,f,u),C,A) l m0 E (j+i)).length:Int)-1)).toNat (dflt Qt)).1+ev)=m0.1+(((j+i)/E+1)*E:Nat):=by
  rw[W,hgt,hmul];rw[w64 (by omega) (by omega)];omega
 have hX:i64.wrap (i64.wrap (((mkF (B,(t,w,d,f,u),C,A) l m0 E (j+i)).getD (i64.wrap (((mkF (B,(t,w,d,f,u),C,A) l m0 E (j+i)).length:Int)-1)).toNat (dflt Qt)).1+ev)-(rfM (B,(t,w,d,f,u),C,A) l m0 (j+i)).1)=(((((j+i)/E+1)*E-(j+i)):Nat):Int):=by
  rw[hlast,hrt];rw[w64 (by omega) (by omega)];omega
 have V:n-i>0→∃st:Nat,imin (n-i) (i64.wrap (i64.wrap (((mkF (B,(t,w,d,f,u),C,A) l m0 E (j+i)).getD (i64.wrap (((mkF (B,(t,w,d,f,u),C,A) l m0 E (j+i)).length:Int)-1)).toNat (dflt Qt)).1+ev)-(rfM (B,(t,w,d,f,u),C,A) l m0 (j+i)).1))=(st:Int)∧1≤st∧i+st≤N∧j+(i+st)≤((j+i)/E+1)*E∧Qdr (B,(t,w,d,f,u),C,A) (rfM (B,(t,w,d,f,u),C,A) l m0 (j+i)) l (imin (n-i) (i64.wrap (i64.wrap (((mkF (B,(t,w,d,f,u),C,A) l m0 E (j+i)).getD (i64.wrap (((mkF (B,(t,w,d,f,u),C,A) l m0 E (j+i)).length:Int)-1)).toNat (dflt Qt)).1+ev)-(rfM (B,(t,w,d,f,u),C,A) l m0 (j+i)).1)))=(rfM (B,(t,w,d,f,u),C,A) l m0 (j+(i+st)),rfO (B,(t,w,d,f,u),C,A) l m0 (j+i) st):=fun h=>by
  refine⟨min (N-i) (((j+i)/E+1)*E-(j+i)),?_,by omega,by omega,by omega,?_⟩
  ·rw[hX,QS];omega
  ·rw[hX,QS,show min (n-i) (((((j+i)/E+1)*E-(j+i)):Nat):Int)=((min (N-i) (((j+i)/E+1)*E-(j+i)):Nat):Int) by omega,(Qod D.q D.s (j+i) (by omega) (by omega)).2];show(rfM _ l m0 (j+i+min (N-i) (((j+i)/E+1)*E-(j+i))),_)=_;rw[Nat.add_assoc];rfl
 have hqr:QER (B,(t,w,d,f,u),C,A) (rfM (B,(t,w,d,f,u),C,A) l m0 (j+i)) l:=(D.q.at D.s (j+i)).1.qrn;have hol:=Qoe D.q D.s j i
 repeat' first|(apply Ea;conv=>whnf)|apply Eb|apply Ec|apply Ed|apply Ee|(apply Ei;intro _)|apply Ef hT Y
 all_goals(try dsimp only[Qf] at *)
 all_goals clear hT Y
 ·rw[hwl];show(0:Int)≤(((j+i)/E:Nat):Int)∧(((j+i)/E:Nat):Int)<((mkF (B,(t,w,d,f,u),C,A) l m0 E (j+i)).length:Int);rw[L];generalize(j+i)/E=Q at *;omega
 ·show(i64.wrap (((mkF (B,(t,w,d,f,u),C,A) l m0 E (j+i)).length:Int)-1)).toNat<(mkF (B,(t,w,d,f,u),C,A) l m0 E (j+i)).length;rw[W,L];exact Nat.lt_succ_self _
 ·show(i64.wrap (((mkF (B,(t,w,d,f,u),C,A) l m0 E (j+i)).length:Int)-1)).toNat<(mkF (B,(t,w,d,f,u),C,A) l m0 E (j+i)).length;rw[W,L];exact Nat.lt_succ_self _
 ·exact hqr
 ·rename_i g;show((rfO (B,(t,w,d,f,u),C,A) l m0 j i).length+(Qdr (B,(t,w,d,f,u),C,A) (rfM (B,(t,w,d,f,u),C,A) l m0 (j+i)) l (imin (n-i) (i64.wrap (i64.wrap (((mkF (B,(t,w,d,f,u),C,A) l m0 E (j+i)).getD (i64.wrap (((mkF (B,(t,w,d,f,u),C,A) l m0 E (j+i)).length:Int)-1)).toNat (dflt Qt)).1+ev)-(rfM (B,(t,w,d,f,u),C,A) l m0 (j+i)).1)))).2.length)*32≤140737488355328;obtain⟨st,-,-,P,-,h4⟩:=V g;rw[h4];have h5:(rfO (B,(t,w,d,f,u),C,A) l m0 (j+i) st).length≤st*12:=Qoe D.q D.s (j+i) st;show(_+(rfO (B,(t,w,d,f,u),C,A) l m0 (j+i) st).length)*32≤_;omega
 ·show((mkF (B,(t,w,d,f,u),C,A) l m0 E (j+i)).length+1)*_≤140737488355328;rw[L];generalize(j+i)/E=Q at *;have h:∀s:Nat,s≤1000→(Q+1+1)*s≤140737488355328:=fun s hs=>YG (Nat.mul_le_mul (show Q+1+1≤1002 by omega) hs) (by decide)
  exact h _ (by decide)
 ·rename_i g F;have F:(Qdr (B,(t,w,d,f,u),C,A) (rfM (B,(t,w,d,f,u),C,A) l m0 (j+i)) l (imin (n-i) (i64.wrap (i64.wrap (((mkF (B,(t,w,d,f,u),C,A) l m0 E (j+i)).getD (i64.wrap (((mkF (B,(t,w,d,f,u),C,A) l m0 E (j+i)).length:Int)-1)).toNat (dflt Qt)).1+ev)-(rfM (B,(t,w,d,f,u),C,A) l m0 (j+i)).1)))).1.1=i64.wrap (((mkF (B,(t,w,d,f,u),C,A) l m0 E (j+i)).getD (i64.wrap (((mkF (B,(t,w,d,f,u),C,A) l m0 E (j+i)).length:Int)-1)).toNat (dflt Qt)).1+ev):=F;obtain⟨st,h1,P,M,h4,h5⟩:=V g;have ht:(rfM (B,(t,w,d,f,u),C,A) l m0 (j+(i+st))).1=m0.1+(j+(i+st):Nat):=Qhr hz3 (by omega);rw[h5,hlast] at F;have F:(rfM (B,(t,w,d,f,u),C,A) l m0 (j+(i+st))).1=m0.1+(((j+i)/E+1)*E:Nat):=F;have K:j+(i+st)=((j+i)/E+1)*E:=by omega
  have S:(j+(i+st))/E=(j+i)/E+1:=by rw[K];exact Nat.mul_div_cancel _ (by omega)
  apply Yw (i64.wrap (n-i-(imin (n-i) (i64.wrap (i64.wrap (((mkF (B,(t,w,d,f,u),C,A) l m0 E (j+i)).getD (i64.wrap (((mkF (B,(t,w,d,f,u),C,A) l m0 E (j+i)).length:Int)-1)).toNat (dflt Qt)).1+ev)-(rfM (B,(t,w,d,f,u),C,A) l m0 (j+i)).1)))),(Qdr (B,(t,w,d,f,u),C,A) (rfM (B,(t,w,d,f,u),C,A) l m0 (j+i)) l (imin (n-i) (i64.wrap (i64.wrap (((mkF (B,(t,w,d,f,u),C,A) l m0 E (j+i)).getD (i64.wrap (((mkF (B,(t,w,d,f,u),C,A) l m0 E (j+i)).length:Int)-1)).toNat (dflt Qt)).1+ev)-(rfM (B,(t,w,d,f,u),C,A) l m0 (j+i)).1)))).1,mkF (B,(t,w,d,f,u),C,A) l m0 E (j+i)++[(Qdr (B,(t,w,d,f,u),C,A) (rfM (B,(t,w,d,f,u),C,A) l m0 (j+i)) l (imin (n-i) (i64.wrap (i64.wrap (((mkF (B,(t,w,d,f,u),C,A) l m0 E (j+i)).getD (i64.wrap (((mkF (B,(t,w,d,f,u),C,A) l m0 E (j+i)).length:Int)-1)).toNat (dflt Qt)).1+ev)-(rfM (B,(t,w,d,f,u),C,A) l m0 (j+i)).1)))).1],rfO (B,(t,w,d,f,u),C,A) l m0 j i++(Qdr (B,(t,w,d,f,u),C,A) (rfM (B,(t,w,d,f,u),C,A) l m0 (j+i)) l (imin (n-i) (i64.wrap (i64.wrap (((mkF (B,(t,w,d,f,u),C,A) l m0 E (j+i)).getD (i64.wrap (((mkF (B,(t,w,d,f,u),C,A) l m0 E (j+i)).length:Int)-1)).toNat (dflt Qt)).1+ev)-(rfM (B,(t,w,d,f,u),C,A) l m0 (j+i)).1)))).2);refine Yo ?_ (Yo ?_ (Le.k [] [0,1,7,5] ?hh))
  case hh=>repeat' constructor
  ·refine⟨i+st,M,?_,?_,?_,?_⟩
   ·show i64.wrap (n-i-(imin (n-i) (i64.wrap (i64.wrap (((mkF (B,(t,w,d,f,u),C,A) l m0 E (j+i)).getD (i64.wrap (((mkF (B,(t,w,d,f,u),C,A) l m0 E (j+i)).length:Int)-1)).toNat (dflt Qt)).1+ev)-(rfM (B,(t,w,d,f,u),C,A) l m0 (j+i)).1))))=n-((i+st:Nat):Int);rw[h1,w64 (by omega) (by omega)];omega
   ·show(Qdr (B,(t,w,d,f,u),C,A) (rfM (B,(t,w,d,f,u),C,A) l m0 (j+i)) l (imin (n-i) (i64.wrap (i64.wrap (((mkF (B,(t,w,d,f,u),C,A) l m0 E (j+i)).getD (i64.wrap (((mkF (B,(t,w,d,f,u),C,A) l m0 E (j+i)).length:Int)-1)).toNat (dflt Qt)).1+ev)-(rfM (B,(t,w,d,f,u),C,A) l m0 (j+i)).1)))).1=_;rw[h5]
   ·show mkF (B,(t,w,d,f,u),C,A) l m0 E (j+i)++[(Qdr (B,(t,w,d,f,u),C,A) (rfM (B,(t,w,d,f,u),C,A) l m0 (j+i)) l (imin (n-i) (i64.wrap (i64.wrap (((mkF (B,(t,w,d,f,u),C,A) l m0 E (j+i)).getD (i64.wrap (((mkF (B,(t,w,d,f,u),C,A) l m0 E (j+i)).length:Int)-1)).toNat (dflt Qt)).1+ev)-(rfM (B,(t,w,d,f,u),C,A) l m0 (j+i)).1)))).1]=_;rw[h5];exact(QAm _ _ _ S K).symm
   ·show rfO (B,(t,w,d,f,u),C,A) l m0 j i++(Qdr (B,(t,w,d,f,u),C,A) (rfM (B,(t,w,d,f,u),C,A) l m0 (j+i)) l (imin (n-i) (i64.wrap (i64.wrap (((mkF (B,(t,w,d,f,u),C,A) l m0 E (j+i)).getD (i64.wrap (((mkF (B,(t,w,d,f,u),C,A) l m0 E (j+i)).length:Int)-1)).toNat (dflt Qt)).1+ev)-(rfM (B,(t,w,d,f,u),C,A) l m0 (j+i)).1)))).2=_;rw[h5,QwT]
  ·show(i64.wrap (n-i-(imin (n-i) (i64.wrap (i64.wrap (((mkF (B,(t,w,d,f,u),C,A) l m0 E (j+i)).getD (i64.wrap (((mkF (B,(t,w,d,f,u),C,A) l m0 E (j+i)).length:Int)-1)).toNat (dflt Qt)).1+ev)-(rfM (B,(t,w,d,f,u),C,A) l m0 (j+i)).1))))).toNat<(n-i).toNat;rw[h1,w64 (by omega) (by omega)];omega
 ·rename_i g F;have F:¬(Qdr (B,(t,w,d,f,u),C,A) (rfM (B,(t,w,d,f,u),C,A) l m0 (j+i)) l (imin (n-i) (i64.wrap (i64.wrap (((mkF (B,(t,w,d,f,u),C,A) l m0 E (j+i)).getD (i64.wrap (((mkF (B,(t,w,d,f,u),C,A) l m0 E (j+i)).length:Int)-1)).toNat (dflt Qt)).1+ev)-(rfM (B,(t,w,d,f,u),C,A) l m0 (j+i)).1)))).1.1=i64.wrap (((mkF (B,(t,w,d,f,u),C,A) l m0 E (j+i)).getD (i64.wrap (((mkF (B,(t,w,d,f,u),C,A) l m0 E (j+i)).length:Int)-1)).toNat (dflt Qt)).1+ev):=F;obtain⟨st,h1,P,M,h4,h5⟩:=V g;have ht:(rfM (B,(t,w,d,f,u),C,A) l m0 (j+(i+st))).1=m0.1+(j+(i+st):Nat):=Qhr hz3 (by omega);rw[h5,hlast] at F;have F:¬(rfM (B,(t,w,d,f,u),C,A) l m0 (j+(i+st))).1=m0.1+(((j+i)/E+1)*E:Nat):=F;have K:j+(i+st)<((j+i)/E+1)*E:=by omega
  have S:(j+i)/E=(j+(i+st))/E:=by
   refine Nat.le_antisymm (Nat.div_le_div_right (by omega)) (Nat.le_of_lt_succ ?_);exact(Nat.div_lt_iff_lt_mul (by omega)).2 K
  apply Yw (i64.wrap (n-i-(imin (n-i) (i64.wrap (i64.wrap (((mkF (B,(t,w,d,f,u),C,A) l m0 E (j+i)).getD (i64.wrap (((mkF (B,(t,w,d,f,u),C,A) l m0 E (j+i)).length:Int)-1)).toNat (dflt Qt)).1+ev)-(rfM (B,(t,w,d,f,u),C,A) l m0 (j+i)).1)))),(Qdr (B,(t,w,d,f,u),C,A) (rfM (B,(t,w,d,f,u),C,A) l m0 (j+i)) l (imin (n-i) (i64.wrap (i64.wrap (((mkF (B,(t,w,d,f,u),C,A) l m0 E (j+i)).getD (i64.wrap (((mkF (B,(t,w,d,f,u),C,A) l m0 E (j+i)).length:Int)-1)).toNat (dflt Qt)).1+ev)-(rfM (B,(t,w,d,f,u),C,A) l m0 (j+i)).1)))).1,mkF (B,(t,w,d,f,u),C,A) l m0 E (j+i),rfO (B,(t,w,d,f,u),C,A) l m0 j i++(Qdr (B,(t,w,d,f,u),C,A) (rfM (B,(t,w,d,f,u),C,A) l m0 (j+i)) l (imin (n-i) (i64.wrap (i64.wrap (((mkF (B,(t,w,d,f,u),C,A) l m0 E (j+i)).getD (i64.wrap (((mkF (B,(t,w,d,f,u),C,A) l m0 E (j+i)).length:Int)-1)).toNat (dflt Qt)).1+ev)-(rfM (B,(t,w,d,f,u),C,A) l m0 (j+i)).1)))).2);refine Yo ?_ (Yo ?_ (Le.k [] [0,1,2,5] ?hh))
  case hh=>repeat' constructor
  ·refine⟨i+st,M,?_,?_,?_,?_⟩
   ·show i64.wrap (n-i-(imin (n-i) (i64.wrap (i64.wrap (((mkF (B,(t,w,d,f,u),C,A) l m0 E (j+i)).getD (i64.wrap (((mkF (B,(t,w,d,f,u),C,A) l m0 E (j+i)).length:Int)-1)).toNat (dflt Qt)).1+ev)-(rfM (B,(t,w,d,f,u),C,A) l m0 (j+i)).1))))=n-((i+st:Nat):Int);rw[h1,w64 (by omega) (by omega)];omega
   ·show(Qdr (B,(t,w,d,f,u),C,A) (rfM (B,(t,w,d,f,u),C,A) l m0 (j+i)) l (imin (n-i) (i64.wrap (i64.wrap (((mkF (B,(t,w,d,f,u),C,A) l m0 E (j+i)).getD (i64.wrap (((mkF (B,(t,w,d,f,u),C,A) l m0 E (j+i)).length:Int)-1)).toNat (dflt Qt)).1+ev)-(rfM (B,(t,w,d,f,u),C,A) l m0 (j+i)).1)))).1=_;rw[h5]
   ·exact QAl _ _ _ S
   ·show rfO (B,(t,w,d,f,u),C,A) l m0 j i++(Qdr (B,(t,w,d,f,u),C,A) (rfM (B,(t,w,d,f,u),C,A) l m0 (j+i)) l (imin (n-i) (i64.wrap (i64.wrap (((mkF (B,(t,w,d,f,u),C,A) l m0 E (j+i)).getD (i64.wrap (((mkF (B,(t,w,d,f,u),C,A) l m0 E (j+i)).length:Int)-1)).toNat (dflt Qt)).1+ev)-(rfM (B,(t,w,d,f,u),C,A) l m0 (j+i)).1)))).2=_;rw[h5,QwT]
  ·show(i64.wrap (n-i-(imin (n-i) (i64.wrap (i64.wrap (((mkF (B,(t,w,d,f,u),C,A) l m0 E (j+i)).getD (i64.wrap (((mkF (B,(t,w,d,f,u),C,A) l m0 E (j+i)).length:Int)-1)).toNat (dflt Qt)).1+ev)-(rfM (B,(t,w,d,f,u),C,A) l m0 (j+i)).1))))).toNat<(n-i).toNat;rw[h1,w64 (by omega) (by omega)];omega
 ·rename_i g;have g:¬n-i>0:=g;have e:i=N:=by omega
  subst e;exact .mk [] [0,1,2,3] _ R R R R R (QIb (b:=⟨B,t,w,d,f,u,C,A⟩) (l:=l) (ev:=ev) hu.1.symm hu.2.1.symm hu.2.2.symm) rfl
theorem QE6{l:List Inp}(h:Wf (.sl Qv) l):∀x∈l,Q1 x.1:=fun x hx=>Qc3 (h.2 x hx).1
theorem Qw5{b:Bd}{m:Mach}{l:List Inp}(h1:Wf gBd.t b)(h2:Wf Qt m)(h3:Wf (.sl Qv) l)(hb:bd gBd.t b≤1048576)(hm:bd Qt m≤1048576):QrsP b m l :=
 ⟨Qw4 h1 h2 h3 hb hm,QE6 h3,fun hl=>⟨_,(QiT h1 h2 hb hm hl).1,by decide⟩⟩
end Go.Proofs.YtofgbclopbmlcaaGreat

