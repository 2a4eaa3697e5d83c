/- Part 42 of the proof. Conditions: none. -/
import Derived.Test.YtofgbclopbmlcaaGreatG41
namespace Go.Proofs.YtofgbclopbmlcaaGreat
open Go.IntKind (i64)
set_option maxHeartbeats 8000000
open Go.Fw
set_option linter.unusedVariables false
set_option linter.unusedSimpArgs false
set_option linter.constructorNameAsVariable false
set_option maxRecDepth 100000
def Qxa(cs:List Cv)(ds:List Dv)(k:Nat):List Int:=List.zipWith Qat (cs.take k) (ds.take k)++List.replicate (cs.length-k) 0
theorem QAi{cs:List Cv}{ds:List Dv}{k:Nat}(h:cs.length=ds.length)(hk:k≤cs.length):(Qxa cs ds k).length=cs.length:=by
 unfold Qxa;rw[Ym,Ja,Jr,Yq,Yq];omega
theorem QH7{cs:List Cv}{ds:List Dv}:Qxa cs ds 0=List.replicate cs.length 0:=by unfold Qxa;simp
theorem QAj{cs:List Cv}{ds:List Dv}{k:Nat}(h:cs.length=ds.length)(hk:cs.length≤k):Qxa cs ds k=List.zipWith Qat cs ds:=by
 unfold Qxa;rw[Yh hk,Yh (by omega),show cs.length-k=0 by omega];simp
theorem QwP{cs:List Cv}{ds:List Dv}{k:Nat}(h:cs.length=ds.length)(hk:k<cs.length):(Qxa cs ds k).set k (Qat (cs.getD k (dflt Qe)) (ds.getD k (dflt Qh)))=Qxa cs ds (k+1):=by
 unfold Qxa;have hl:(List.zipWith Qat (cs.take k) (ds.take k)).length=k:=by rw[Ja,Yq,Yq];omega
 rw[←QmE h hk,Jq,Yb (by omega),hl,Jk,show cs.length-k=(cs.length-(k+1))+1 by omega,List.replicate_succ,Ji,Yy];rfl
def gvC(t:Int)(x:Inp)(c:Cv)(d:Dv):Dv:=if x.1=t∧Qm x.2.1 QaQ=false then Qfa x c d else d
theorem QB5{cs:List Cv}{ds:List Dv}(h:cs.length=ds.length):List.zipWith (fun(_:Cv) (d:Dv)=>d) cs ds=ds:=by
 apply List.ext_getElem?;intro i;rw[List.getElem?_zipWith];by_cases X:i<ds.length
 ·rw[Ye X,Ye (show i<cs.length by omega)]
 ·rw[YK (show ds.length≤i by omega),YK (show cs.length≤i by omega)]
theorem QAk{cs:List Cv}{t:Int}{d0:List Dv}{n0:Bool}{x:Inp}(h:cs.length=d0.length):QdH cs t (d0,n0) x=(List.zipWith (gvC t x) cs d0,n0||(decide (x.1=t)&&Qm x.2.1 QaQ)):=by
 unfold QdH;by_cases h1:x.1=t
 ·cases h2:Qm x.2.1 QaQ with
  |true =>
   have e:gvC t x=fun _ d=>d:=by funext c d;exact Yb (fun hh=>by rw[h2] at hh;cases hh.2)
   rw[Yb (fun hh=>hh h1),Yf rfl,e,QB5 h,Yl h1];simp
  |false =>
   have e:gvC t x=Qfa x:=by funext c d;exact Yf ⟨h1,h2⟩
   rw[Yb (fun hh=>hh h1),Yb (by decide),e,Yl h1];simp
 ·have e:gvC t x=fun _ d=>d:=by funext c d;exact Yb (fun hh=>h1 hh.1)
  rw[Yf h1,e,QB5 h,Yn h1];simp
theorem QiQ{tm:Int}{c:Cpu}{A:Kor×Bsv}{R:Option Blk}{i i':Int}{d d':List Dv}{N:List Int}(h:i=i')(h2:d=d') :
 [some (Blk.var [iv .i64 tm,.run .i64 9 (QL c A.1 i).1,iv .i64 (QL c A.1 i).2.1,iv .i64 (QL c A.1 i).2.2.1,bv (QL c A.1 i).2.2.2,.own 2,iv .i64 A.2.1,iv .i64 A.2.2.1,iv .i64 i]),R,some (.arr Qh d),some (.arr (.int .i64) N),some (.arr Qv [])] =
 [some (Blk.var [iv .i64 tm,.run .i64 9 (QL c A.1 i').1,iv .i64 (QL c A.1 i').2.1,iv .i64 (QL c A.1 i').2.2.1,bv (QL c A.1 i').2.2.2,.own 2,iv .i64 A.2.1,iv .i64 A.2.2.1,iv .i64 i']),R,some (.arr Qh d'),some (.arr (.int .i64) N),some (.arr Qv [])]:=by
 subst h h2;rfl
theorem Qf8(tm:Int):i64.wrap (Qam tm (-1) 1099511627775+1)=Qcg tm:=by
 have h:Qam tm (-1) 1099511627775=max (-1) (min tm 1099511627775):=by
  unfold Qam
  repeat' split
  all_goals omega
 rw[h,w64 (by omega) (by omega)];rfl
theorem QwQ{b:Bd}{a:Int}(h:bP b a)(hf:0≤Qn b a):i64.wrap (a-(b.2.2.1.getD (Qn b a).toNat (dflt Qe)).2.2.1)=atF b a:=by
 have ho:Qgx a (b.2.2.1.getD (Qn b a).toNat (dflt Qe))=true:=Qy7 (dflt Qe) hf;unfold Qgx at ho;simp only[Yj,YB] at ho;have h1:=(Qc1 hf).1;have hcc:=h.2.2 _ (QK (dflt Qe) (show(Qn b a).toNat<b.2.2.1.length by omega));have h3:=ho.1;have h4:=ho.2.2;have h5:=hcc.2.2;have h6:=h.2.1.2;have h7:=hcc.1.1;have e:atF b a=a-(b.2.2.1.getD (Qn b a).toNat (dflt Qe)).2.2.1:=Yf hf;rw[e];exact w64 (by omega) (by omega)
def QMk(b:Bd)(m:Mach)(l:List Inp):Prop:=(Qw9 m.2.2.1∧l.length≤4611686018427387904∧bdP b)∧Qbc b.2.1 m.2.1∧∃L,MOk L b m
def QH8:PSpec:=⟨[gBd,gM,gIn],fun(b,m,l,_)=>(some (QMk b m l),.tup [QgG (Qs b m l).1 0,.c (.own 1)],[.arr Qh (Qs b m l).1.2.2.1,.arr Qv (Qs b m l).2])⟩
theorem Qsy:G0 23 QH8.spec:=by
 have Y:S0 _:=Qa Qqi (Qa QuP (Qa QuO (Qa QnS (Qa QrP (Qa Qzk (Qa Qva (Qa QrN (Qa QrO (Qa QnW (Qa QrK (Qa Qha (Qb (T:=tree)))))))))))));have Z:=tabs Y Qc;refine QH8.gd Z Y Tryz.func23 fun(b:Bd) (m:Mach) (l:List Inp) hq=>?_
 obtain⟨⟨h1,hl,hbd⟩,htl,L,hM⟩:QMk b m l:=hq _ rfl;clear hq;obtain⟨E,⟨y,C,n,p,B⟩,f,D⟩:=b;obtain⟨tm,⟨r,op,at_,Q⟩,ds,bd,ba,W⟩:=m;have hbd:bdP (E,(y,C,n,p,B),f,D):=hbd;have htl:Qbc (y,C,n,p,B) (r,op,at_,Q):=htl;have hbl:f.length*64≤140737488351232:=hbd.1.1;have h2:f.length=ds.length:=hM.l;have h3:QrZ L f:=hM.c;have h4:Qhl L ds:=hM.d;have hL:=hM.L2;have hL1:=hM.L1;have hc:∀c∈f,cP c:=fun c h=>(h3 c h).1
 have hd:∀d∈ds,dP d:=fun d h=>(h4 d h).dP hL
 repeat' first|(apply Ea;conv=>whnf)|apply Eb|apply Ec|apply Ed|apply Ee|(apply Ei;intro _)|apply Ef Z Y
 all_goals(try dsimp only[Qf] at *)
 ·exact h1.1
 ·refine⟨rfl,by omega,?_,by omega⟩;show(f.length:Int)*8≤281474976710656;omega
 refine QA Z Y (A:=List Int) f.length (fun i w=>St.mk (E2 ((.cell (.ro Qv l))::(.cell (.ptr 0 0))::(.cell (.ptr 1 0))::E1 ((.cell (.ptr 2 0))::E1 ((.cell (.own 4))::E20 (E3 ((.cell (.ro Qe f))::(I f.length)::(I i)::E40 (E40 (E40 (E40 (E40 (E40 (E10 (E2 [])))))))))))))
  [some (.var [.imm (.string E),.imm (.string y),.ro Qap C,.ro Qp n,.ro Qp p,.ro Qp B,.ro Qe f,.ro Qo D]),
   some (.var [iv .i64 tm,.run .i64 9 r,iv .i64 op,iv .i64 at_,bv Q,.own 3,iv .i64 bd,iv .i64 ba,iv .i64 W]),
   some (.var [.imm (.int .i64 0),.run .i64 9 (List.replicate 9 0),.imm (.int .i64 0),.imm (.int .i64 0),.imm (.bool false),.imm (.slice none 0 0),.imm (.int .i64 0),.imm (.int .i64 0),.imm (.int .i64 0)]),some (.arr Qh ds),some (.arr (.int .i64) w)])
  (fun k w=>w=Qxa f ds k) (List.replicate f.length 0) (Le.mk [] [0,1,2,3,4] R R ?_ ?_) QH7.symm fun k w hk X=>?_
 ·exact rfl
 ·repeat' constructor
 have hwl:w.length=f.length:=by rw[X];exact QAi h2 hk
 repeat' first|(apply Ea;conv=>whnf)|apply Eb|apply Ec|apply Ed|apply Ee|(apply Ei;intro _)|apply Ef Z Y
 all_goals(try dsimp only[Qf] at *)
 ·have g:(k:Int)<(f.length:Int):=by assumption
  show 0≤(k:Int)∧(k:Int)<(f.length:Int);omega
 ·have g:(k:Int)<(f.length:Int):=by assumption
  show 0≤(k:Int)∧(k:Int)<(ds.length:Int);omega
 ·have g:(k:Int)<(f.length:Int):=by assumption
  show k<ds.length;omega
 ·have g:(k:Int)<(f.length:Int):=by assumption
  exact⟨hc _ (QK (dflt Qe) (show k<f.length by omega)),hd _ (QK (dflt Qh) (show k<ds.length by omega))⟩
 ·have g:(k:Int)<(f.length:Int):=by assumption
  show 0≤(k:Int)∧(k:Int)<(w.length:Int);omega
 ·have g:(k:Int)<(f.length:Int):=by assumption
  show k<w.length;omega
 ·rename_i g;have g:(k:Int)<(f.length:Int):=g;apply Ex _ [] [0,1,2,3,4]
  ·repeat' constructor
  ·omega
  ·exact QJ (by omega)
  have e:=QwP h2 (show k<f.length by omega);rw[←X] at e;exact e
 rename_i gg;have gg:¬(k:Int)<(f.length:Int):=gg;have hw:w=List.zipWith Qat f ds:=by rw[X,QAj h2 (by omega)]
 subst hw;clear X hk gg hwl;generalize hN0:List.zipWith Qat f ds=N0 at *;have hNl:N0.length=f.length:=by rw[←hN0];exact Qqw h2
 refine QA Z Y (A:=List Dv×Bool) l.length (fun i s=>St.mk (E3 ((.cell (.ptr 0 0))::(.cell (.ptr 1 0))::E1 ((.cell (.ptr 2 0))::E1 ((.cell (.own 4))::E40 (E1 ((.cell (.ro Qv l))::(I l.length)::(I i)::E40 (E40 (E40 (E40 (E40 (E20 (E10 (E3 (E1 []))))))))))))))
  [some (.var [.imm (.string E),.imm (.string y),.ro Qap C,.ro Qp n,.ro Qp p,.ro Qp B,.ro Qe f,.ro Qo D]),
   some (.var [iv .i64 tm,.run .i64 9 r,iv .i64 op,iv .i64 at_,bv s.2,.own 3,iv .i64 bd,iv .i64 ba,iv .i64 W]),
   some (.var [.imm (.int .i64 0),.run .i64 9 (List.replicate 9 0),.imm (.int .i64 0),.imm (.int .i64 0),.imm (.bool false),.imm (.slice none 0 0),.imm (.int .i64 0),.imm (.int .i64 0),.imm (.int .i64 0)]),some (.arr Qh s.1),some (.arr (.int .i64) N0)])
  (fun k s=>s=QkW f tm l (ds,Q) k) (ds,Q) (Le.mk [] [0,1,2,3,4] R R ?_ ?_) rfl fun k s hk X=>?_
 ·exact rfl
 ·repeat' constructor
 obtain⟨d0,n0⟩:=s
 have hok:Qhl L d0∧d0.length=ds.length:=by
  have:=Qez (t:=tm) h3 (l.take k) (s:=(ds,Q)) h4 h2;have e:QM f tm (l.take k) (ds,Q)=(d0,n0):=X.symm;rw[e] at this;exact this
 have S:k<l.length→QkW f tm l (ds,Q) (k+1)=QdH f tm (d0,n0) (l.getD k (dflt Qv)):=fun h=>by rw[QjB h (dflt Qv),←X]
 repeat' first|(apply Ea;conv=>whnf)|apply Eb|apply Ec|apply Ed|apply Ee|(apply Ei;intro _)|apply Ef Z Y
 all_goals(try dsimp only[Qf] at *)
 ·have g:(k:Int)<(l.length:Int):=by assumption
  show 0≤(k:Int)∧(k:Int)<(l.length:Int);omega
 ·rename_i g;have g:(k:Int)<(l.length:Int):=g;have S:=S (by omega);have U:f.length=d0.length:=by rw[hok.2];exact h2
  rw[QAk U] at S;have hkk:l.getD (k:Int).toNat (dflt Qv)=l.getD k (dflt Qv):=rfl;rw[hkk];clear hkk;generalize l.getD k (dflt Qv)=x at *;obtain⟨xa,xc,xn⟩:=x
  refine QA Z Y (A:=List Dv) f.length (fun j d=>St.mk (E3 ((.cell (.ptr 0 0))::(.cell (.ptr 1 0))::E1 ((.cell (.ptr 2 0))::E1 ((.cell (.own 4))::E3 ((.cell (.ptr 5 0))::E20 (E10 (E5 (E2 ((.cell (.ro Qv l))::(I l.length)::(I k)::E3 (E1 ((.cell (.ro Qe f))::(I f.length)::(I j)::E40 (E40 (E40 (E40 (E40 (E20 (E5 (E2 []))))))))))))))))))
   [some (.var [.imm (.string E),.imm (.string y),.ro Qap C,.ro Qp n,.ro Qp p,.ro Qp B,.ro Qe f,.ro Qo D]),
    some (.var [iv .i64 tm,.run .i64 9 r,iv .i64 op,iv .i64 at_,bv n0,.own 3,iv .i64 bd,iv .i64 ba,iv .i64 W]),
    some (.var [.imm (.int .i64 0),.run .i64 9 (List.replicate 9 0),.imm (.int .i64 0),.imm (.int .i64 0),.imm (.bool false),.imm (.slice none 0 0),.imm (.int .i64 0),.imm (.int .i64 0),.imm (.int .i64 0)]),some (.arr Qh d),some (.arr (.int .i64) N0),some (.var [iv .i64 xa,.imm (.string xc),iv .i64 xn])])
   (fun j d=>d=QdP (gvC tm (xa,xc,xn)) f d0 j) d0 (Le.mk [] [0,1,2,3,4,5] R R ?_ ?_) (QfW _ _ _).symm fun j d hj H=>?_
  ·exact rfl
  ·repeat' constructor
  have hdl2:d.length=d0.length:=by rw[H];exact QbW U hj
  have J:j<f.length→d.getD j (dflt Qh)=d0.getD j (dflt Qh):=fun h=>by rw[H];exact QbX U h _
  have F:j<f.length→d.set j (gvC tm (xa,xc,xn) (f.getD j (dflt Qe)) (d0.getD j (dflt Qh)))=QdP (gvC tm (xa,xc,xn)) f d0 (j+1):=fun h=>by rw[H];exact Qbp U h _ _
  repeat' first|(apply Ea;conv=>whnf)|apply Eb|apply Ec|apply Ed|apply Ee|(apply Ei;intro _)|apply Ef Z Y
  all_goals(try dsimp only[Qf] at *)
  ·have g:(j:Int)<(f.length:Int):=by assumption
   show 0≤(j:Int)∧(j:Int)<(f.length:Int);omega
  ·have g:(j:Int)<(f.length:Int):=by assumption
   show 0≤(j:Int)∧(j:Int)<(d.length:Int);omega
  ·have g:(j:Int)<(f.length:Int):=by assumption
   show j<d.length;omega
  ·have g:(j:Int)<(f.length:Int):=by assumption
   refine⟨hc _ (QK (dflt Qe) (show j<f.length by omega)),?_⟩;show dP (d.getD j (dflt Qh));rw[J (by omega)];exact(hok.1.get j).dP hL
  ·have g:(j:Int)<(f.length:Int):=by assumption
   show 0≤(j:Int)∧(j:Int)<(d.length:Int);omega
  ·have g:(j:Int)<(f.length:Int):=by assumption
   show j<d.length;omega
  ·rename_i g a1 a2 a3;have g:(j:Int)<(f.length:Int):=g;have a1:xa=tm:=a1;have a2:Qm xc (f.getD j (dflt Qe)).1=true:=a2;have a3:(!Qm xc QaQ)=true:=a3
   have e:gvC tm (xa,xc,xn) (f.getD j (dflt Qe)) (d0.getD j (dflt Qh))=Qmn (f.getD j (dflt Qe)) (d.getD j (dflt Qh)) xn:=by
    unfold gvC Qfa;rw[Yf ⟨a1,by simpa using a3⟩,Yf (QF.2 (QF.1 a2).symm),J (by omega)]
   apply Ex _ [] [0,1,2,3,4,5]
   ·repeat' constructor
   ·omega
   ·exact QJ (by omega)
   exact(Yv (fun z=>d.set j z) e.symm).trans (F (by omega))
  ·rename_i g a1 a2 a3;have g:(j:Int)<(f.length:Int):=g;have a3:(!Qm xc QaQ)=false:=a3
   have e:gvC tm (xa,xc,xn) (f.getD j (dflt Qe)) (d0.getD j (dflt Qh))=d0.getD j (dflt Qh):=by
    unfold gvC;rw[Yb (fun hh=>by rw[hh.2] at a3;cases a3)]
   apply Ex d [] [0,1,2,3,4,5]
   ·repeat' constructor
   ·omega
   ·exact QJ (by omega)
   exact H.trans (QkV U (by omega) e)
  ·rename_i g a1 a2;have g:(j:Int)<(f.length:Int):=g;have a2:Qm xc (f.getD j (dflt Qe)).1=false:=a2
   have e:gvC tm (xa,xc,xn) (f.getD j (dflt Qe)) (d0.getD j (dflt Qh))=d0.getD j (dflt Qh):=by
    unfold gvC;split
    ·unfold Qfa;rw[Yb (fun hh=>by rw[QF.2 (QF.1 hh).symm] at a2;cases a2)]
    ·rfl
   apply Ex d [] [0,1,2,3,4,5]
   ·repeat' constructor
   ·omega
   ·exact QJ (by omega)
   exact H.trans (QkV U (by omega) e)
  ·rename_i g a1;have g:(j:Int)<(f.length:Int):=g;have a1:¬xa=tm:=a1
   have e:gvC tm (xa,xc,xn) (f.getD j (dflt Qe)) (d0.getD j (dflt Qh))=d0.getD j (dflt Qh):=by
    unfold gvC;rw[Yb (fun hh=>a1 hh.1)]
   apply Ex d [] [0,1,2,3,4,5]
   ·repeat' constructor
   ·omega
   ·exact QJ (by omega)
   exact H.trans (QkV U (by omega) e)
  ·rename_i g a1;have g:¬(j:Int)<(f.length:Int):=g;have e:d=List.zipWith (gvC tm (xa,xc,xn)) f d0:=by rw[H,QbF U (by omega)]
   apply Ex (d,_) [] [0,1,2,3,4]
   ·repeat' constructor
   ·omega
   ·exact QJ (by omega)
   rw[S,←e];have a1:n0=true:=a1;rw[a1];rfl
  ·rename_i g a1 a2;have g:¬(j:Int)<(f.length:Int):=g;have e:d=List.zipWith (gvC tm (xa,xc,xn)) f d0:=by rw[H,QbF U (by omega)]
   apply Ex (d,_) [] [0,1,2,3,4]
   ·repeat' constructor
   ·omega
   ·exact QJ (by omega)
   rw[S,←e];have a1:n0=false:=a1;have a2:xa=tm:=a2;rw[a1,Yl a2];rfl
  ·rename_i g a1 a2;have g:¬(j:Int)<(f.length:Int):=g;have e:d=List.zipWith (gvC tm (xa,xc,xn)) f d0:=by rw[H,QbF U (by omega)]
   apply Ex (d,_) [] [0,1,2,3,4]
   ·repeat' constructor
   ·omega
   ·exact QJ (by omega)
   rw[S,←e];have a1:n0=false:=a1;have a2:¬xa=tm:=a2;rw[a1,Yn a2];rfl
 ·exact hbd
 rename_i gg;have gg:¬(k:Int)<(l.length:Int):=gg;have eG:QM f tm l (ds,Q)=(d0,n0):=by rw[X,QmA (by omega)]
 have hhl:=Qdk D f;have hhl:(Qbo D f).length=f.length:=hhl;have hlE:QC (E,(y,C,n,p,B),f,D) d0=Qby (Qbo D f) f d0:=rfl;have U:f.length=d0.length:=by rw[hok.2];exact h2
 have hdd:∀d∈d0,dP d:=fun d h=>(hok.1 d h).dP hL
 clear X hk gg S;generalize Qbo D f=hs at *;rw[hhl]
 refine QA Z Y (A:=Bool) f.length (fun i o=>St.mk (E3 ((.cell (.ptr 0 0))::(.cell (.ptr 1 0))::E1 ((.cell (.ptr 2 0))::E1 ((.cell (.own 4))::E5 (E1 ((.cell (bv o))::E40 (E40 (E10 (E5 (E3 ((.cell (.own 5))::(I f.length)::(I i)::E40 (E40 (E40 (E40 (E10 [])))))))))))))))
  [some (.var [.imm (.string E),.imm (.string y),.ro Qap C,.ro Qp n,.ro Qp p,.ro Qp B,.ro Qe f,.ro Qo D]),
   some (.var [iv .i64 tm,.run .i64 9 r,iv .i64 op,iv .i64 at_,bv n0,.own 3,iv .i64 bd,iv .i64 ba,iv .i64 W]),
   some (.var [.imm (.int .i64 0),.run .i64 9 (List.replicate 9 0),.imm (.int .i64 0),.imm (.int .i64 0),.imm (.bool false),.imm (.slice none 0 0),.imm (.int .i64 0),.imm (.int .i64 0),.imm (.int .i64 0)]),some (.arr Qh d0),some (.arr (.int .i64) N0),some (.arr .bool hs)])
  (fun k o=>(o||Qby (hs.drop k) (f.drop k) (d0.drop k))=Qby hs f d0) false (Le.mk [] [0,1,2,3,4,5] R R ?_ ?_) rfl fun q o hq hj=>?_
 ·exact rfl
 ·repeat' constructor
 have S:=fun h=>QcA (ds:=d0) (k:=q) hhl h
 have hLine:¬(q:Int)<(f.length:Int)→o=QC (E,(y,C,n,p,B),f,D) d0:=fun h=>by
  rw[hlE,←hj,QjF hhl (by omega),Bool.or_false]
 have hAd:=QiG (y,C,n,p,B) (r,op,at_,n0) o;have hbP:bP (E,(y,C,n,p,B),f,D) (Qk (y,C,n,p,B) (r,op,at_,n0) o).2.2.1:=⟨by show f.length≤_;omega,⟨by omega,by omega⟩,fun c h=>⟨(hc c h).1,(hc c h).2.1⟩⟩
 have hfin:0≤Qn (E,(y,C,n,p,B),f,D) (Qk (y,C,n,p,B) (r,op,at_,n0) o).2.2.1→Qn (E,(y,C,n,p,B),f,D) (Qk (y,C,n,p,B) (r,op,at_,n0) o).2.2.1<(f.length:Int):=fun h=>(Qc1 h).1
 repeat' first|(apply Ea;conv=>whnf)|apply Eb|apply Ec|apply Ed|apply Ee|(apply Ei;intro _)|apply Ef Z Y
 all_goals(try dsimp only[Qf] at *)
 ·have g:(q:Int)<(f.length:Int):=by assumption
  show 0≤(q:Int)∧(q:Int)<(hs.length:Int);omega
 ·have g:(q:Int)<(f.length:Int):=by assumption
  show q<hs.length;omega
 ·rename_i g a1;have g:(q:Int)<(f.length:Int):=g;have a1:o=true:=a1;apply Ex _ [] [0,1,2,3,4,5]
  ·repeat' constructor
  ·omega
  ·exact QJ (by omega)
  rw[←hj,a1];rfl
 ·have g:(q:Int)<(f.length:Int):=by assumption
  show 0≤(q:Int)∧(q:Int)<(f.length:Int);omega
 ·have g:(q:Int)<(f.length:Int):=by assumption
  show 0≤(q:Int)∧(q:Int)<(d0.length:Int);omega
 ·have g:(q:Int)<(f.length:Int):=by assumption
  show q<d0.length;omega
 ·have g:(q:Int)<(f.length:Int):=by assumption
  exact⟨hc _ (QK (dflt Qe) (show q<f.length by omega)),hdd _ (QK (dflt Qh) (show q<d0.length by omega))⟩
 ·rename_i g a1 a2;have g:(q:Int)<(f.length:Int):=g;have a1:o=false:=a1;have a2:hs.getD q (dflt .bool)=true:=a2;have S:=S (by omega);rw[Yl (show q<d0.length by omega),show hs.getD q false=true from a2] at S;apply Ex _ [] [0,1,2,3,4,5]
  ·repeat' constructor
  ·omega
  ·exact QJ (by omega)
  rw[←hj,S,a1];rfl
 ·rename_i g a1 a2;have g:(q:Int)<(f.length:Int):=g;have a1:o=false:=a1;have a2:hs.getD q (dflt .bool)=false:=a2;have S:=S (by omega);rw[show hs.getD q false=false from a2] at S;apply Ex _ [] [0,1,2,3,4,5]
  ·repeat' constructor
  ·omega
  ·exact QJ (by omega)
  rw[←hj,S,a1];simp
 ·exact QnX (QfY htl n0)
 ·exact hbP
 all_goals first
  |(show 0≤Qn (E,(y,C,n,p,B),f,D) (Qk (y,C,n,p,B) (r,op,at_,n0) o).2.2.1∧Qn (E,(y,C,n,p,B),f,D) (Qk (y,C,n,p,B) (r,op,at_,n0) o).2.2.1<(f.length:Int);have h0:0≤Qn (E,(y,C,n,p,B),f,D) (Qk (y,C,n,p,B) (r,op,at_,n0) o).2.2.1:=by assumption
    exact⟨h0,hfin h0⟩)
  |(show 0≤Qn (E,(y,C,n,p,B),f,D) (Qk (y,C,n,p,B) (r,op,at_,n0) o).2.2.1∧Qn (E,(y,C,n,p,B),f,D) (Qk (y,C,n,p,B) (r,op,at_,n0) o).2.2.1<(d0.length:Int);have h0:0≤Qn (E,(y,C,n,p,B),f,D) (Qk (y,C,n,p,B) (r,op,at_,n0) o).2.2.1:=by assumption
    have:=hfin h0;omega)
  |(show(Qn (E,(y,C,n,p,B),f,D) (Qk (y,C,n,p,B) (r,op,at_,n0) o).2.2.1).toNat<d0.length;have h0:0≤Qn (E,(y,C,n,p,B),f,D) (Qk (y,C,n,p,B) (r,op,at_,n0) o).2.2.1:=by assumption
    have:=hfin h0;omega)
  |(have h0:0≤Qn (E,(y,C,n,p,B),f,D) (Qk (y,C,n,p,B) (r,op,at_,n0) o).2.2.1:=by assumption
    have:=hfin h0
    exact⟨hc _ (QK (dflt Qe) (show(Qn (E,(y,C,n,p,B),f,D) (Qk (y,C,n,p,B) (r,op,at_,n0) o).2.2.1).toNat<f.length by omega)),hdd _ (QK (dflt Qh) (show(Qn (E,(y,C,n,p,B),f,D) (Qk (y,C,n,p,B) (r,op,at_,n0) o).2.2.1).toNat<d0.length by omega))⟩)
  |exact Qix (QfY htl _) _
  |skip
 ·rename_i gx gb hf;have gx:¬(q:Int)<(f.length:Int):=gx;have ho:=hLine gx;have P:=QdI (b:=(E,(y,C,n,p,B),f,D)) (ds:=d0) (x:=(Qk (y,C,n,p,B) (r,op,at_,n0) o).2) hL1 h3 hok.1
  have hI:loadI (f.getD (Qn (E,(y,C,n,p,B),f,D) (Qk (y,C,n,p,B) (r,op,at_,n0) o).2.2.1).toNat (dflt Qe)) (d0.getD (Qn (E,(y,C,n,p,B),f,D) (Qk (y,C,n,p,B) (r,op,at_,n0) o).2.2.1).toNat (dflt Qh)) (i64.wrap ((Qk (y,C,n,p,B) (r,op,at_,n0) o).2.2.1-(f.getD (Qn (E,(y,C,n,p,B),f,D) (Qk (y,C,n,p,B) (r,op,at_,n0) o).2.2.1).toNat (dflt Qe)).2.2.1))=Qb4 (E,(y,C,n,p,B),f,D) d0 (Qk (y,C,n,p,B) (r,op,at_,n0) o).2:=by
   rw[QwQ (b:=(E,(y,C,n,p,B),f,D)) hbP hf];exact(QvS (b:=(E,(y,C,n,p,B),f,D)) (x:=(Qk (y,C,n,p,B) (r,op,at_,n0) o).2) hf gb).symm
  have hD:d0.set (Qn (E,(y,C,n,p,B),f,D) (Qk (y,C,n,p,B) (r,op,at_,n0) o).2.2.1).toNat (loadD (f.getD (Qn (E,(y,C,n,p,B),f,D) (Qk (y,C,n,p,B) (r,op,at_,n0) o).2.2.1).toNat (dflt Qe)) (d0.getD (Qn (E,(y,C,n,p,B),f,D) (Qk (y,C,n,p,B) (r,op,at_,n0) o).2.2.1).toNat (dflt Qh)) (i64.wrap ((Qk (y,C,n,p,B) (r,op,at_,n0) o).2.2.1-(f.getD (Qn (E,(y,C,n,p,B),f,D) (Qk (y,C,n,p,B) (r,op,at_,n0) o).2.2.1).toNat (dflt Qe)).2.2.1)))=QaX (E,(y,C,n,p,B),f,D) d0 (Qk (y,C,n,p,B) (r,op,at_,n0) o).2:=by
   rw[QwQ (b:=(E,(y,C,n,p,B),f,D)) hbP hf];exact(QvU (b:=(E,(y,C,n,p,B),f,D)) (x:=(Qk (y,C,n,p,B) (r,op,at_,n0) o).2) hf gb).symm
  have hcy:Qs (E,(y,C,n,p,B),f,D) (tm,(r,op,at_,Q),ds,bd,ba,W) l=((Qcg tm,QL (y,C,n,p,B) (Qk (y,C,n,p,B) (r,op,at_,n0) o).1 (Qb4 (E,(y,C,n,p,B),f,D) d0 (Qk (y,C,n,p,B) (r,op,at_,n0) o).2),List.zipWith Qg f (QaX (E,(y,C,n,p,B),f,D) d0 (Qk (y,C,n,p,B) (r,op,at_,n0) o).2),(Qk (y,C,n,p,B) (r,op,at_,n0) o).2.1,(Qk (y,C,n,p,B) (r,op,at_,n0) o).2.2.1,Qb4 (E,(y,C,n,p,B),f,D) d0 (Qk (y,C,n,p,B) (r,op,at_,n0) o).2),Qfh tm f (List.zipWith Qg f (QaX (E,(y,C,n,p,B),f,D) d0 (Qk (y,C,n,p,B) (r,op,at_,n0) o).2)) N0):=by
   subst ho;unfold Qs;simp only[eG];rw[←hN0]
  have M:(QaX (E,(y,C,n,p,B),f,D) d0 (Qk (y,C,n,p,B) (r,op,at_,n0) o).2).length=f.length:=by rw[P.2];exact U.symm
  have hDd:∀d∈QaX (E,(y,C,n,p,B),f,D) d0 (Qk (y,C,n,p,B) (r,op,at_,n0) o).2,dP d:=fun d h=>(P.1 d h).dP hL
  have hTd:∀d∈List.zipWith Qg f (QaX (E,(y,C,n,p,B),f,D) d0 (Qk (y,C,n,p,B) (r,op,at_,n0) o).2),dP d:=fun d h=>(QbS h3 P.1 d h).dP hL
  generalize hD1:QaX (E,(y,C,n,p,B),f,D) d0 (Qk (y,C,n,p,B) (r,op,at_,n0) o).2=D0 at *;generalize hI1:Qb4 (E,(y,C,n,p,B),f,D) d0 (Qk (y,C,n,p,B) (r,op,at_,n0) o).2=I0 at *
  refine QA Z Y (A:=List Dv×List Inp) f.length (fun i s=>St.mk (E3 (E1 ((.cell (.ptr 0 0))::E1 ((.cell (.ptr 1 0))::E1 ((.cell (.own 3))::E10 ((.cell (.own 4))::E40 (E40 (E40 (E40 (E40 (E10 (E5 (E3 (E1 ((.cell (.ro Qe f))::(I f.length)::(I i)::E40 (E5 []))))))))))))))))
   [some (.var [iv .i64 tm,.run .i64 9 (QL (y,C,n,p,B) (Qk (y,C,n,p,B) (r,op,at_,n0) o).1 I0).1,iv .i64 (QL (y,C,n,p,B) (Qk (y,C,n,p,B) (r,op,at_,n0) o).1 I0).2.1,iv .i64 (QL (y,C,n,p,B) (Qk (y,C,n,p,B) (r,op,at_,n0) o).1 I0).2.2.1,bv (QL (y,C,n,p,B) (Qk (y,C,n,p,B) (r,op,at_,n0) o).1 I0).2.2.2,.own 2,iv .i64 (Qk (y,C,n,p,B) (r,op,at_,n0) o).2.1,iv .i64 (Qk (y,C,n,p,B) (r,op,at_,n0) o).2.2.1,iv .i64 I0]),
    some (.var [.imm (.int .i64 0),.run .i64 9 (List.replicate 9 0),.imm (.int .i64 0),.imm (.int .i64 0),.imm (.bool false),.imm (.slice none 0 0),.imm (.int .i64 0),.imm (.int .i64 0),.imm (.int .i64 0)]),some (.arr Qh s.1),some (.arr (.int .i64) N0),some (.arr Qv s.2)])
   (fun k s=>s.1=QdP Qg f D0 k∧s.2=newK tm f (List.zipWith Qg f D0) N0 k) (D0,[]) (.trans (Le.nil 19 Qv rfl) (Le.mk [] [1,2,3,4,8] R R ?_ ?_)) ⟨(QfW _ _ _).symm,rfl⟩ fun u s hu X=>?_
  ·exact QiQ hI hD
  ·repeat' constructor
  generalize hT0:QL (y,C,n,p,B) (Qk (y,C,n,p,B) (r,op,at_,n0) o).1 I0=T0 at *;generalize(Qk (y,C,n,p,B) (r,op,at_,n0) o)=A0 at *;obtain⟨d,v⟩:=s;obtain⟨K,H⟩:=X;have K:d=QdP Qg f D0 u:=K;have H:v=newK tm f (List.zipWith Qg f D0) N0 u:=H;have hdl1:d.length=f.length:=by rw[K,QbW M.symm hu];exact M
  have J:u<f.length→d.getD u (dflt Qh)=D0.getD u (dflt Qh):=fun h=>by rw[K];exact QbX M.symm h _
  have F:u<f.length→d.set u (Qg (f.getD u (dflt Qe)) (D0.getD u (dflt Qh)))=QdP Qg f D0 (u+1):=fun h=>by rw[K];exact Qbp M.symm h _ _
  have hzl:f.length=(List.zipWith Qg f D0).length:=by rw[Ja];omega
  have V:u<f.length→(List.zipWith Qg f D0).getD u (dflt Qh)=Qg (f.getD u (dflt Qe)) (D0.getD u (dflt Qh)):=fun h=>QgF M.symm h
  have G:u<f.length→newK tm f (List.zipWith Qg f D0) N0 (u+1)=v++(if Qat (f.getD u (dflt Qe)) (Qg (f.getD u (dflt Qe)) (D0.getD u (dflt Qh)))=N0.getD u 0 then [] else [(tm,(f.getD u (dflt Qe)).1,Qat (f.getD u (dflt Qe)) (Qg (f.getD u (dflt Qe)) (D0.getD u (dflt Qh))))]):=fun h=>by
   rw[Qdm hzl hNl.symm h (dflt Qe) (dflt Qh),V h,H]
  have hol:v.length≤f.length:=by
   rw[H];refine YG (QbG _ _ _ _) ?_;rw[Yq];omega
  repeat' first|(apply Ea;conv=>whnf)|apply Eb|apply Ec|apply Ed|apply Ee|(apply Ei;intro _)|apply Ef Z Y
  all_goals(try dsimp only[Qf] at *)
  ·have g:(u:Int)<(f.length:Int):=by assumption
   show 0≤(u:Int)∧(u:Int)<(f.length:Int);omega
  ·have g:(u:Int)<(f.length:Int):=by assumption
   show 0≤(u:Int)∧(u:Int)<(d.length:Int);omega
  ·have g:(u:Int)<(f.length:Int):=by assumption
   show u<d.length;omega
  ·have g:(u:Int)<(f.length:Int):=by assumption
   refine⟨hc _ (QK (dflt Qe) (show u<f.length by omega)),?_⟩;show dP (d.getD u (dflt Qh));rw[J (by omega)];exact hDd _ (QK (dflt Qh) (show u<D0.length by omega))
  ·have g:(u:Int)<(f.length:Int):=by assumption
   show 0≤(u:Int)∧(u:Int)<(d.length:Int);omega
  ·have g:(u:Int)<(f.length:Int):=by assumption
   show u<d.length;omega
  ·have g:(u:Int)<(f.length:Int):=by assumption
   show 0≤(u:Int)∧(u:Int)<(List.length (d.set _ _):Int);rw[YH];omega
  ·have g:(u:Int)<(f.length:Int):=by assumption
   show u<List.length (d.set _ _);rw[YH];omega
  ·have g:(u:Int)<(f.length:Int):=by assumption
   refine⟨hc _ (QK (dflt Qe) (show u<f.length by omega)),?_⟩;show dP ((d.set u (Qg (f.getD u (dflt Qe)) (d.getD u (dflt Qh)))).getD u (dflt Qh));rw[Qau (show u<d.length by omega),J (by omega),←V (by omega)];exact hTd _ (QK (dflt Qh) (show u<(List.zipWith Qg f D0).length by omega))
  ·have g:(u:Int)<(f.length:Int):=by assumption
   show 0≤(u:Int)∧(u:Int)<(N0.length:Int);omega
  ·have g:(u:Int)<(f.length:Int):=by assumption
   show u<N0.length;omega
  ·have g:(u:Int)<(f.length:Int):=by assumption
   show(v.length+1)*32≤140737488355328;omega
  ·rename_i g O;have g:(u:Int)<(f.length:Int):=g;have e1:(d.set u (Qg (f.getD u (dflt Qe)) (d.getD u (dflt Qh)))).getD u (dflt Qh)=Qg (f.getD u (dflt Qe)) (D0.getD u (dflt Qh)):=by rw[Qau (show u<d.length by omega),J (by omega)]
   have O:(Qat (f.getD u (dflt Qe)) ((d.set u (Qg (f.getD u (dflt Qe)) (d.getD u (dflt Qh)))).getD u (dflt Qh)) != N0.getD u 0)=true:=O;rw[e1] at O;have g3:¬Qat (f.getD u (dflt Qe)) (Qg (f.getD u (dflt Qe)) (D0.getD u (dflt Qh)))=N0.getD u 0:=by simpa using O
   have G:=G (by omega);rw[Yb g3] at G;have F:=F (by omega);rw[←J (by omega)] at F;apply Ex (_,_) [] [0,1,2,3,9]
   ·repeat' constructor
   ·omega
   ·exact QJ (by omega)
   refine⟨F,?_⟩;rw[G,←e1]
   try rfl
  ·rename_i g O;have g:(u:Int)<(f.length:Int):=g;have e1:(d.set u (Qg (f.getD u (dflt Qe)) (d.getD u (dflt Qh)))).getD u (dflt Qh)=Qg (f.getD u (dflt Qe)) (D0.getD u (dflt Qh)):=by rw[Qau (show u<d.length by omega),J (by omega)]
   have O:(Qat (f.getD u (dflt Qe)) ((d.set u (Qg (f.getD u (dflt Qe)) (d.getD u (dflt Qh)))).getD u (dflt Qh)) != N0.getD u 0)=false:=O;rw[e1] at O;have g3:Qat (f.getD u (dflt Qe)) (Qg (f.getD u (dflt Qe)) (D0.getD u (dflt Qh)))=N0.getD u 0:=by simpa using O
   have G:=G (by omega);rw[Yf g3,Jd] at G;have F:=F (by omega);rw[←J (by omega)] at F;apply Ex (_,v) [] [0,1,2,3,4]
   ·repeat' constructor
   ·omega
   ·exact QJ (by omega)
   exact⟨F,G.symm⟩
  ·rename_i g;have g:¬(u:Int)<(f.length:Int):=g;have e1:d=List.zipWith Qg f D0:=by rw[K,QbF M.symm (by omega)]
   have e2:v=Qfh tm f (List.zipWith Qg f D0) N0:=by
    rw[H];unfold newK;rw[Yh (by omega),Yh (by omega),Yh (by omega)]
   have e3:i64.wrap (Qam tm (-1) 1099511627775+1)=Qcg tm:=Qf8 tm;have e:((i64.wrap (Qam tm (-1) 1099511627775+1),T0,d,A0.2.1,A0.2.2.1,I0),v)=Qs (E,(y,C,n,p,B),f,D) (tm,(r,op,at_,Q),ds,bd,ba,W) l:=by rw[hcy,e1,e2,e3]
   exact .mk [] [2,4] _ R R R R R (Yv (fun z:Mach×List Inp=>[some (Blk.arr Qh z.1.2.2.1),some (Blk.arr Qv z.2)]) e) (Yv (fun z:Mach×List Inp=>AV.tup [QgG z.1 0,.c (.own 1)]) e)
 ·rename_i gx gb hf;have gx:¬(q:Int)<(f.length:Int):=gx;have ho:=hLine gx;have P:=QdI (b:=(E,(y,C,n,p,B),f,D)) (ds:=d0) (x:=(Qk (y,C,n,p,B) (r,op,at_,n0) o).2) hL1 h3 hok.1
  have hI:255=Qb4 (E,(y,C,n,p,B),f,D) d0 (Qk (y,C,n,p,B) (r,op,at_,n0) o).2:=by
   exact(QvT (b:=(E,(y,C,n,p,B),f,D)) (x:=(Qk (y,C,n,p,B) (r,op,at_,n0) o).2) hf gb).symm
  have hD:d0=QaX (E,(y,C,n,p,B),f,D) d0 (Qk (y,C,n,p,B) (r,op,at_,n0) o).2:=by
   exact(QjD (b:=(E,(y,C,n,p,B),f,D)) (x:=(Qk (y,C,n,p,B) (r,op,at_,n0) o).2) hf).symm
  have hcy:Qs (E,(y,C,n,p,B),f,D) (tm,(r,op,at_,Q),ds,bd,ba,W) l=((Qcg tm,QL (y,C,n,p,B) (Qk (y,C,n,p,B) (r,op,at_,n0) o).1 (Qb4 (E,(y,C,n,p,B),f,D) d0 (Qk (y,C,n,p,B) (r,op,at_,n0) o).2),List.zipWith Qg f (QaX (E,(y,C,n,p,B),f,D) d0 (Qk (y,C,n,p,B) (r,op,at_,n0) o).2),(Qk (y,C,n,p,B) (r,op,at_,n0) o).2.1,(Qk (y,C,n,p,B) (r,op,at_,n0) o).2.2.1,Qb4 (E,(y,C,n,p,B),f,D) d0 (Qk (y,C,n,p,B) (r,op,at_,n0) o).2),Qfh tm f (List.zipWith Qg f (QaX (E,(y,C,n,p,B),f,D) d0 (Qk (y,C,n,p,B) (r,op,at_,n0) o).2)) N0):=by
   subst ho;unfold Qs;simp only[eG];rw[←hN0]
  have M:(QaX (E,(y,C,n,p,B),f,D) d0 (Qk (y,C,n,p,B) (r,op,at_,n0) o).2).length=f.length:=by rw[P.2];exact U.symm
  have hDd:∀d∈QaX (E,(y,C,n,p,B),f,D) d0 (Qk (y,C,n,p,B) (r,op,at_,n0) o).2,dP d:=fun d h=>(P.1 d h).dP hL
  have hTd:∀d∈List.zipWith Qg f (QaX (E,(y,C,n,p,B),f,D) d0 (Qk (y,C,n,p,B) (r,op,at_,n0) o).2),dP d:=fun d h=>(QbS h3 P.1 d h).dP hL
  generalize hD1:QaX (E,(y,C,n,p,B),f,D) d0 (Qk (y,C,n,p,B) (r,op,at_,n0) o).2=D0 at *;generalize hI1:Qb4 (E,(y,C,n,p,B),f,D) d0 (Qk (y,C,n,p,B) (r,op,at_,n0) o).2=I0 at *
  refine QA Z Y (A:=List Dv×List Inp) f.length (fun i s=>St.mk (E3 (E1 ((.cell (.ptr 0 0))::E1 ((.cell (.ptr 1 0))::E1 ((.cell (.own 3))::E10 ((.cell (.own 4))::E40 (E40 (E40 (E40 (E40 (E10 (E5 (E3 (E1 ((.cell (.ro Qe f))::(I f.length)::(I i)::E40 (E5 []))))))))))))))))
   [some (.var [iv .i64 tm,.run .i64 9 (QL (y,C,n,p,B) (Qk (y,C,n,p,B) (r,op,at_,n0) o).1 I0).1,iv .i64 (QL (y,C,n,p,B) (Qk (y,C,n,p,B) (r,op,at_,n0) o).1 I0).2.1,iv .i64 (QL (y,C,n,p,B) (Qk (y,C,n,p,B) (r,op,at_,n0) o).1 I0).2.2.1,bv (QL (y,C,n,p,B) (Qk (y,C,n,p,B) (r,op,at_,n0) o).1 I0).2.2.2,.own 2,iv .i64 (Qk (y,C,n,p,B) (r,op,at_,n0) o).2.1,iv .i64 (Qk (y,C,n,p,B) (r,op,at_,n0) o).2.2.1,iv .i64 I0]),
    some (.var [.imm (.int .i64 0),.run .i64 9 (List.replicate 9 0),.imm (.int .i64 0),.imm (.int .i64 0),.imm (.bool false),.imm (.slice none 0 0),.imm (.int .i64 0),.imm (.int .i64 0),.imm (.int .i64 0)]),some (.arr Qh s.1),some (.arr (.int .i64) N0),some (.arr Qv s.2)])
   (fun k s=>s.1=QdP Qg f D0 k∧s.2=newK tm f (List.zipWith Qg f D0) N0 k) (D0,[]) (.trans (Le.nil 19 Qv rfl) (Le.mk [] [1,2,3,4,6] R R ?_ ?_)) ⟨(QfW _ _ _).symm,rfl⟩ fun u s hu X=>?_
  ·exact QiQ hI hD
  ·repeat' constructor
  generalize hT0:QL (y,C,n,p,B) (Qk (y,C,n,p,B) (r,op,at_,n0) o).1 I0=T0 at *;generalize(Qk (y,C,n,p,B) (r,op,at_,n0) o)=A0 at *;obtain⟨d,v⟩:=s;obtain⟨K,H⟩:=X;have K:d=QdP Qg f D0 u:=K;have H:v=newK tm f (List.zipWith Qg f D0) N0 u:=H;have hdl1:d.length=f.length:=by rw[K,QbW M.symm hu];exact M
  have J:u<f.length→d.getD u (dflt Qh)=D0.getD u (dflt Qh):=fun h=>by rw[K];exact QbX M.symm h _
  have F:u<f.length→d.set u (Qg (f.getD u (dflt Qe)) (D0.getD u (dflt Qh)))=QdP Qg f D0 (u+1):=fun h=>by rw[K];exact Qbp M.symm h _ _
  have hzl:f.length=(List.zipWith Qg f D0).length:=by rw[Ja];omega
  have V:u<f.length→(List.zipWith Qg f D0).getD u (dflt Qh)=Qg (f.getD u (dflt Qe)) (D0.getD u (dflt Qh)):=fun h=>QgF M.symm h
  have G:u<f.length→newK tm f (List.zipWith Qg f D0) N0 (u+1)=v++(if Qat (f.getD u (dflt Qe)) (Qg (f.getD u (dflt Qe)) (D0.getD u (dflt Qh)))=N0.getD u 0 then [] else [(tm,(f.getD u (dflt Qe)).1,Qat (f.getD u (dflt Qe)) (Qg (f.getD u (dflt Qe)) (D0.getD u (dflt Qh))))]):=fun h=>by
   rw[Qdm hzl hNl.symm h (dflt Qe) (dflt Qh),V h,H]
  have hol:v.length≤f.length:=by
   rw[H];refine YG (QbG _ _ _ _) ?_;rw[Yq];omega
  repeat' first|(apply Ea;conv=>whnf)|apply Eb|apply Ec|apply Ed|apply Ee|(apply Ei;intro _)|apply Ef Z Y
  all_goals(try dsimp only[Qf] at *)
  ·have g:(u:Int)<(f.length:Int):=by assumption
   show 0≤(u:Int)∧(u:Int)<(f.length:Int);omega
  ·have g:(u:Int)<(f.length:Int):=by assumption
   show 0≤(u:Int)∧(u:Int)<(d.length:Int);omega
  ·have g:(u:Int)<(f.length:Int):=by assumption
   show u<d.length;omega
  ·have g:(u:Int)<(f.length:Int):=by assumption
   refine⟨hc _ (QK (dflt Qe) (show u<f.length by omega)),?_⟩;show dP (d.getD u (dflt Qh));rw[J (by omega)];exact hDd _ (QK (dflt Qh) (show u<D0.length by omega))
  ·have g:(u:Int)<(f.length:Int):=by assumption
   show 0≤(u:Int)∧(u:Int)<(d.length:Int);omega
  ·have g:(u:Int)<(f.length:Int):=by assumption
   show u<d.length;omega
  ·have g:(u:Int)<(f.length:Int):=by assumption
   show 0≤(u:Int)∧(u:Int)<(List.length (d.set _ _):Int);rw[YH];omega
  ·have g:(u:Int)<(f.length:Int):=by assumption
   show u<List.length (d.set _ _);rw[YH];omega
  ·have g:(u:Int)<(f.length:Int):=by assumption
   refine⟨hc _ (QK (dflt Qe) (show u<f.length by omega)),?_⟩;show dP ((d.set u (Qg (f.getD u (dflt Qe)) (d.getD u (dflt Qh)))).getD u (dflt Qh));rw[Qau (show u<d.length by omega),J (by omega),←V (by omega)];exact hTd _ (QK (dflt Qh) (show u<(List.zipWith Qg f D0).length by omega))
  ·have g:(u:Int)<(f.length:Int):=by assumption
   show 0≤(u:Int)∧(u:Int)<(N0.length:Int);omega
  ·have g:(u:Int)<(f.length:Int):=by assumption
   show u<N0.length;omega
  ·have g:(u:Int)<(f.length:Int):=by assumption
   show(v.length+1)*32≤140737488355328;omega
  ·rename_i g O;have g:(u:Int)<(f.length:Int):=g;have e1:(d.set u (Qg (f.getD u (dflt Qe)) (d.getD u (dflt Qh)))).getD u (dflt Qh)=Qg (f.getD u (dflt Qe)) (D0.getD u (dflt Qh)):=by rw[Qau (show u<d.length by omega),J (by omega)]
   have O:(Qat (f.getD u (dflt Qe)) ((d.set u (Qg (f.getD u (dflt Qe)) (d.getD u (dflt Qh)))).getD u (dflt Qh)) != N0.getD u 0)=true:=O;rw[e1] at O;have g3:¬Qat (f.getD u (dflt Qe)) (Qg (f.getD u (dflt Qe)) (D0.getD u (dflt Qh)))=N0.getD u 0:=by simpa using O
   have G:=G (by omega);rw[Yb g3] at G;have F:=F (by omega);rw[←J (by omega)] at F;apply Ex (_,_) [] [0,1,2,3,9]
   ·repeat' constructor
   ·omega
   ·exact QJ (by omega)
   refine⟨F,?_⟩;rw[G,←e1]
   try rfl
  ·rename_i g O;have g:(u:Int)<(f.length:Int):=g;have e1:(d.set u (Qg (f.getD u (dflt Qe)) (d.getD u (dflt Qh)))).getD u (dflt Qh)=Qg (f.getD u (dflt Qe)) (D0.getD u (dflt Qh)):=by rw[Qau (show u<d.length by omega),J (by omega)]
   have O:(Qat (f.getD u (dflt Qe)) ((d.set u (Qg (f.getD u (dflt Qe)) (d.getD u (dflt Qh)))).getD u (dflt Qh)) != N0.getD u 0)=false:=O;rw[e1] at O;have g3:Qat (f.getD u (dflt Qe)) (Qg (f.getD u (dflt Qe)) (D0.getD u (dflt Qh)))=N0.getD u 0:=by simpa using O
   have G:=G (by omega);rw[Yf g3,Jd] at G;have F:=F (by omega);rw[←J (by omega)] at F;apply Ex (_,v) [] [0,1,2,3,4]
   ·repeat' constructor
   ·omega
   ·exact QJ (by omega)
   exact⟨F,G.symm⟩
  ·rename_i g;have g:¬(u:Int)<(f.length:Int):=g;have e1:d=List.zipWith Qg f D0:=by rw[K,QbF M.symm (by omega)]
   have e2:v=Qfh tm f (List.zipWith Qg f D0) N0:=by
    rw[H];unfold newK;rw[Yh (by omega),Yh (by omega),Yh (by omega)]
   have e3:i64.wrap (Qam tm (-1) 1099511627775+1)=Qcg tm:=Qf8 tm;have e:((i64.wrap (Qam tm (-1) 1099511627775+1),T0,d,A0.2.1,A0.2.2.1,I0),v)=Qs (E,(y,C,n,p,B),f,D) (tm,(r,op,at_,Q),ds,bd,ba,W) l:=by rw[hcy,e1,e2,e3]
   exact .mk [] [2,4] _ R R R R R (Yv (fun z:Mach×List Inp=>[some (Blk.arr Qh z.1.2.2.1),some (Blk.arr Qv z.2)]) e) (Yv (fun z:Mach×List Inp=>AV.tup [QgG z.1 0,.c (.own 1)]) e)
 ·rename_i gx gb gc hf;have gx:¬(q:Int)<(f.length:Int):=gx;have ho:=hLine gx;have P:=QdI (b:=(E,(y,C,n,p,B),f,D)) (ds:=d0) (x:=(Qk (y,C,n,p,B) (r,op,at_,n0) o).2) hL1 h3 hok.1
  have hI:(Qk (y,C,n,p,B) (r,op,at_,n0) o).2.2.2=Qb4 (E,(y,C,n,p,B),f,D) d0 (Qk (y,C,n,p,B) (r,op,at_,n0) o).2:=by
   exact(QfX (b:=(E,(y,C,n,p,B),f,D)) (x:=(Qk (y,C,n,p,B) (r,op,at_,n0) o).2) gb).symm
  have hD:d0.set (Qn (E,(y,C,n,p,B),f,D) (Qk (y,C,n,p,B) (r,op,at_,n0) o).2.2.1).toNat (Qbg (f.getD (Qn (E,(y,C,n,p,B),f,D) (Qk (y,C,n,p,B) (r,op,at_,n0) o).2.2.1).toNat (dflt Qe)) (d0.getD (Qn (E,(y,C,n,p,B),f,D) (Qk (y,C,n,p,B) (r,op,at_,n0) o).2.2.1).toNat (dflt Qh)) (i64.wrap ((Qk (y,C,n,p,B) (r,op,at_,n0) o).2.2.1-(f.getD (Qn (E,(y,C,n,p,B),f,D) (Qk (y,C,n,p,B) (r,op,at_,n0) o).2.2.1).toNat (dflt Qe)).2.2.1)) (Qk (y,C,n,p,B) (r,op,at_,n0) o).2.2.2)=QaX (E,(y,C,n,p,B),f,D) d0 (Qk (y,C,n,p,B) (r,op,at_,n0) o).2:=by
   rw[QwQ (b:=(E,(y,C,n,p,B),f,D)) hbP hf];exact(QvV (b:=(E,(y,C,n,p,B),f,D)) (x:=(Qk (y,C,n,p,B) (r,op,at_,n0) o).2) hf gc).symm
  have hcy:Qs (E,(y,C,n,p,B),f,D) (tm,(r,op,at_,Q),ds,bd,ba,W) l=((Qcg tm,QL (y,C,n,p,B) (Qk (y,C,n,p,B) (r,op,at_,n0) o).1 (Qb4 (E,(y,C,n,p,B),f,D) d0 (Qk (y,C,n,p,B) (r,op,at_,n0) o).2),List.zipWith Qg f (QaX (E,(y,C,n,p,B),f,D) d0 (Qk (y,C,n,p,B) (r,op,at_,n0) o).2),(Qk (y,C,n,p,B) (r,op,at_,n0) o).2.1,(Qk (y,C,n,p,B) (r,op,at_,n0) o).2.2.1,Qb4 (E,(y,C,n,p,B),f,D) d0 (Qk (y,C,n,p,B) (r,op,at_,n0) o).2),Qfh tm f (List.zipWith Qg f (QaX (E,(y,C,n,p,B),f,D) d0 (Qk (y,C,n,p,B) (r,op,at_,n0) o).2)) N0):=by
   subst ho;unfold Qs;simp only[eG];rw[←hN0]
  have M:(QaX (E,(y,C,n,p,B),f,D) d0 (Qk (y,C,n,p,B) (r,op,at_,n0) o).2).length=f.length:=by rw[P.2];exact U.symm
  have hDd:∀d∈QaX (E,(y,C,n,p,B),f,D) d0 (Qk (y,C,n,p,B) (r,op,at_,n0) o).2,dP d:=fun d h=>(P.1 d h).dP hL
  have hTd:∀d∈List.zipWith Qg f (QaX (E,(y,C,n,p,B),f,D) d0 (Qk (y,C,n,p,B) (r,op,at_,n0) o).2),dP d:=fun d h=>(QbS h3 P.1 d h).dP hL
  generalize hD1:QaX (E,(y,C,n,p,B),f,D) d0 (Qk (y,C,n,p,B) (r,op,at_,n0) o).2=D0 at *;generalize hI1:Qb4 (E,(y,C,n,p,B),f,D) d0 (Qk (y,C,n,p,B) (r,op,at_,n0) o).2=I0 at *
  refine QA Z Y (A:=List Dv×List Inp) f.length (fun i s=>St.mk (E3 (E1 ((.cell (.ptr 0 0))::E1 ((.cell (.ptr 1 0))::E1 ((.cell (.own 3))::E10 ((.cell (.own 4))::E40 (E40 (E40 (E40 (E40 (E10 (E5 (E3 (E1 ((.cell (.ro Qe f))::(I f.length)::(I i)::E40 (E5 []))))))))))))))))
   [some (.var [iv .i64 tm,.run .i64 9 (QL (y,C,n,p,B) (Qk (y,C,n,p,B) (r,op,at_,n0) o).1 I0).1,iv .i64 (QL (y,C,n,p,B) (Qk (y,C,n,p,B) (r,op,at_,n0) o).1 I0).2.1,iv .i64 (QL (y,C,n,p,B) (Qk (y,C,n,p,B) (r,op,at_,n0) o).1 I0).2.2.1,bv (QL (y,C,n,p,B) (Qk (y,C,n,p,B) (r,op,at_,n0) o).1 I0).2.2.2,.own 2,iv .i64 (Qk (y,C,n,p,B) (r,op,at_,n0) o).2.1,iv .i64 (Qk (y,C,n,p,B) (r,op,at_,n0) o).2.2.1,iv .i64 I0]),
    some (.var [.imm (.int .i64 0),.run .i64 9 (List.replicate 9 0),.imm (.int .i64 0),.imm (.int .i64 0),.imm (.bool false),.imm (.slice none 0 0),.imm (.int .i64 0),.imm (.int .i64 0),.imm (.int .i64 0)]),some (.arr Qh s.1),some (.arr (.int .i64) N0),some (.arr Qv s.2)])
   (fun k s=>s.1=QdP Qg f D0 k∧s.2=newK tm f (List.zipWith Qg f D0) N0 k) (D0,[]) (.trans (Le.nil 19 Qv rfl) (Le.mk [] [1,2,3,4,8] R R ?_ ?_)) ⟨(QfW _ _ _).symm,rfl⟩ fun u s hu X=>?_
  ·exact QiQ hI hD
  ·repeat' constructor
  generalize hT0:QL (y,C,n,p,B) (Qk (y,C,n,p,B) (r,op,at_,n0) o).1 I0=T0 at *;generalize(Qk (y,C,n,p,B) (r,op,at_,n0) o)=A0 at *;obtain⟨d,v⟩:=s;obtain⟨K,H⟩:=X;have K:d=QdP Qg f D0 u:=K;have H:v=newK tm f (List.zipWith Qg f D0) N0 u:=H;have hdl1:d.length=f.length:=by rw[K,QbW M.symm hu];exact M
  have J:u<f.length→d.getD u (dflt Qh)=D0.getD u (dflt Qh):=fun h=>by rw[K];exact QbX M.symm h _
  have F:u<f.length→d.set u (Qg (f.getD u (dflt Qe)) (D0.getD u (dflt Qh)))=QdP Qg f D0 (u+1):=fun h=>by rw[K];exact Qbp M.symm h _ _
  have hzl:f.length=(List.zipWith Qg f D0).length:=by rw[Ja];omega
  have V:u<f.length→(List.zipWith Qg f D0).getD u (dflt Qh)=Qg (f.getD u (dflt Qe)) (D0.getD u (dflt Qh)):=fun h=>QgF M.symm h
  have G:u<f.length→newK tm f (List.zipWith Qg f D0) N0 (u+1)=v++(if Qat (f.getD u (dflt Qe)) (Qg (f.getD u (dflt Qe)) (D0.getD u (dflt Qh)))=N0.getD u 0 then [] else [(tm,(f.getD u (dflt Qe)).1,Qat (f.getD u (dflt Qe)) (Qg (f.getD u (dflt Qe)) (D0.getD u (dflt Qh))))]):=fun h=>by
   rw[Qdm hzl hNl.symm h (dflt Qe) (dflt Qh),V h,H]
  have hol:v.length≤f.length:=by
   rw[H];refine YG (QbG _ _ _ _) ?_;rw[Yq];omega
  repeat' first|(apply Ea;conv=>whnf)|apply Eb|apply Ec|apply Ed|apply Ee|(apply Ei;intro _)|apply Ef Z Y
  all_goals(try dsimp only[Qf] at *)
  ·have g:(u:Int)<(f.length:Int):=by assumption
   show 0≤(u:Int)∧(u:Int)<(f.length:Int);omega
  ·have g:(u:Int)<(f.length:Int):=by assumption
   show 0≤(u:Int)∧(u:Int)<(d.length:Int);omega
  ·have g:(u:Int)<(f.length:Int):=by assumption
   show u<d.length;omega
  ·have g:(u:Int)<(f.length:Int):=by assumption
   refine⟨hc _ (QK (dflt Qe) (show u<f.length by omega)),?_⟩;show dP (d.getD u (dflt Qh));rw[J (by omega)];exact hDd _ (QK (dflt Qh) (show u<D0.length by omega))
  ·have g:(u:Int)<(f.length:Int):=by assumption
   show 0≤(u:Int)∧(u:Int)<(d.length:Int);omega
  ·have g:(u:Int)<(f.length:Int):=by assumption
   show u<d.length;omega
  ·have g:(u:Int)<(f.length:Int):=by assumption
   show 0≤(u:Int)∧(u:Int)<(List.length (d.set _ _):Int);rw[YH];omega
  ·have g:(u:Int)<(f.length:Int):=by assumption
   show u<List.length (d.set _ _);rw[YH];omega
  ·have g:(u:Int)<(f.length:Int):=by assumption
   refine⟨hc _ (QK (dflt Qe) (show u<f.length by omega)),?_⟩;show dP ((d.set u (Qg (f.getD u (dflt Qe)) (d.getD u (dflt Qh)))).getD u (dflt Qh));rw[Qau (show u<d.length by omega),J (by omega),←V (by omega)];exact hTd _ (QK (dflt Qh) (show u<(List.zipWith Qg f D0).length by omega))
  ·have g:(u:Int)<(f.length:Int):=by assumption
   show 0≤(u:Int)∧(u:Int)<(N0.length:Int);omega
  ·have g:(u:Int)<(f.length:Int):=by assumption
   show u<N0.length;omega
  ·have g:(u:Int)<(f.length:Int):=by assumption
   show(v.length+1)*32≤140737488355328;omega
  ·rename_i g O;have g:(u:Int)<(f.length:Int):=g;have e1:(d.set u (Qg (f.getD u (dflt Qe)) (d.getD u (dflt Qh)))).getD u (dflt Qh)=Qg (f.getD u (dflt Qe)) (D0.getD u (dflt Qh)):=by rw[Qau (show u<d.length by omega),J (by omega)]
   have O:(Qat (f.getD u (dflt Qe)) ((d.set u (Qg (f.getD u (dflt Qe)) (d.getD u (dflt Qh)))).getD u (dflt Qh)) != N0.getD u 0)=true:=O;rw[e1] at O;have g3:¬Qat (f.getD u (dflt Qe)) (Qg (f.getD u (dflt Qe)) (D0.getD u (dflt Qh)))=N0.getD u 0:=by simpa using O
   have G:=G (by omega);rw[Yb g3] at G;have F:=F (by omega);rw[←J (by omega)] at F;apply Ex (_,_) [] [0,1,2,3,9]
   ·repeat' constructor
   ·omega
   ·exact QJ (by omega)
   refine⟨F,?_⟩;rw[G,←e1]
   try rfl
  ·rename_i g O;have g:(u:Int)<(f.length:Int):=g;have e1:(d.set u (Qg (f.getD u (dflt Qe)) (d.getD u (dflt Qh)))).getD u (dflt Qh)=Qg (f.getD u (dflt Qe)) (D0.getD u (dflt Qh)):=by rw[Qau (show u<d.length by omega),J (by omega)]
   have O:(Qat (f.getD u (dflt Qe)) ((d.set u (Qg (f.getD u (dflt Qe)) (d.getD u (dflt Qh)))).getD u (dflt Qh)) != N0.getD u 0)=false:=O;rw[e1] at O;have g3:Qat (f.getD u (dflt Qe)) (Qg (f.getD u (dflt Qe)) (D0.getD u (dflt Qh)))=N0.getD u 0:=by simpa using O
   have G:=G (by omega);rw[Yf g3,Jd] at G;have F:=F (by omega);rw[←J (by omega)] at F;apply Ex (_,v) [] [0,1,2,3,4]
   ·repeat' constructor
   ·omega
   ·exact QJ (by omega)
   exact⟨F,G.symm⟩
  ·rename_i g;have g:¬(u:Int)<(f.length:Int):=g;have e1:d=List.zipWith Qg f D0:=by rw[K,QbF M.symm (by omega)]
   have e2:v=Qfh tm f (List.zipWith Qg f D0) N0:=by
    rw[H];unfold newK;rw[Yh (by omega),Yh (by omega),Yh (by omega)]
   have e3:i64.wrap (Qam tm (-1) 1099511627775+1)=Qcg tm:=Qf8 tm;have e:((i64.wrap (Qam tm (-1) 1099511627775+1),T0,d,A0.2.1,A0.2.2.1,I0),v)=Qs (E,(y,C,n,p,B),f,D) (tm,(r,op,at_,Q),ds,bd,ba,W) l:=by rw[hcy,e1,e2,e3]
   exact .mk [] [2,4] _ R R R R R (Yv (fun z:Mach×List Inp=>[some (Blk.arr Qh z.1.2.2.1),some (Blk.arr Qv z.2)]) e) (Yv (fun z:Mach×List Inp=>AV.tup [QgG z.1 0,.c (.own 1)]) e)
 ·rename_i gx gb gc hf;have gx:¬(q:Int)<(f.length:Int):=gx;have ho:=hLine gx;have P:=QdI (b:=(E,(y,C,n,p,B),f,D)) (ds:=d0) (x:=(Qk (y,C,n,p,B) (r,op,at_,n0) o).2) hL1 h3 hok.1
  have hI:(Qk (y,C,n,p,B) (r,op,at_,n0) o).2.2.2=Qb4 (E,(y,C,n,p,B),f,D) d0 (Qk (y,C,n,p,B) (r,op,at_,n0) o).2:=by
   exact(QfX (b:=(E,(y,C,n,p,B),f,D)) (x:=(Qk (y,C,n,p,B) (r,op,at_,n0) o).2) gb).symm
  have hD:d0=QaX (E,(y,C,n,p,B),f,D) d0 (Qk (y,C,n,p,B) (r,op,at_,n0) o).2:=by
   exact(QjD (b:=(E,(y,C,n,p,B),f,D)) (x:=(Qk (y,C,n,p,B) (r,op,at_,n0) o).2) hf).symm
  have hcy:Qs (E,(y,C,n,p,B),f,D) (tm,(r,op,at_,Q),ds,bd,ba,W) l=((Qcg tm,QL (y,C,n,p,B) (Qk (y,C,n,p,B) (r,op,at_,n0) o).1 (Qb4 (E,(y,C,n,p,B),f,D) d0 (Qk (y,C,n,p,B) (r,op,at_,n0) o).2),List.zipWith Qg f (QaX (E,(y,C,n,p,B),f,D) d0 (Qk (y,C,n,p,B) (r,op,at_,n0) o).2),(Qk (y,C,n,p,B) (r,op,at_,n0) o).2.1,(Qk (y,C,n,p,B) (r,op,at_,n0) o).2.2.1,Qb4 (E,(y,C,n,p,B),f,D) d0 (Qk (y,C,n,p,B) (r,op,at_,n0) o).2),Qfh tm f (List.zipWith Qg f (QaX (E,(y,C,n,p,B),f,D) d0 (Qk (y,C,n,p,B) (r,op,at_,n0) o).2)) N0):=by
   subst ho;unfold Qs;simp only[eG];rw[←hN0]
  have M:(QaX (E,(y,C,n,p,B),f,D) d0 (Qk (y,C,n,p,B) (r,op,at_,n0) o).2).length=f.length:=by rw[P.2];exact U.symm
  have hDd:∀d∈QaX (E,(y,C,n,p,B),f,D) d0 (Qk (y,C,n,p,B) (r,op,at_,n0) o).2,dP d:=fun d h=>(P.1 d h).dP hL
  have hTd:∀d∈List.zipWith Qg f (QaX (E,(y,C,n,p,B),f,D) d0 (Qk (y,C,n,p,B) (r,op,at_,n0) o).2),dP d:=fun d h=>(QbS h3 P.1 d h).dP hL
  generalize hD1:QaX (E,(y,C,n,p,B),f,D) d0 (Qk (y,C,n,p,B) (r,op,at_,n0) o).2=D0 at *;generalize hI1:Qb4 (E,(y,C,n,p,B),f,D) d0 (Qk (y,C,n,p,B) (r,op,at_,n0) o).2=I0 at *
  refine QA Z Y (A:=List Dv×List Inp) f.length (fun i s=>St.mk (E3 (E1 ((.cell (.ptr 0 0))::E1 ((.cell (.ptr 1 0))::E1 ((.cell (.own 3))::E10 ((.cell (.own 4))::E40 (E40 (E40 (E40 (E40 (E10 (E5 (E3 (E1 ((.cell (.ro Qe f))::(I f.length)::(I i)::E40 (E5 []))))))))))))))))
   [some (.var [iv .i64 tm,.run .i64 9 (QL (y,C,n,p,B) (Qk (y,C,n,p,B) (r,op,at_,n0) o).1 I0).1,iv .i64 (QL (y,C,n,p,B) (Qk (y,C,n,p,B) (r,op,at_,n0) o).1 I0).2.1,iv .i64 (QL (y,C,n,p,B) (Qk (y,C,n,p,B) (r,op,at_,n0) o).1 I0).2.2.1,bv (QL (y,C,n,p,B) (Qk (y,C,n,p,B) (r,op,at_,n0) o).1 I0).2.2.2,.own 2,iv .i64 (Qk (y,C,n,p,B) (r,op,at_,n0) o).2.1,iv .i64 (Qk (y,C,n,p,B) (r,op,at_,n0) o).2.2.1,iv .i64 I0]),
    some (.var [.imm (.int .i64 0),.run .i64 9 (List.replicate 9 0),.imm (.int .i64 0),.imm (.int .i64 0),.imm (.bool false),.imm (.slice none 0 0),.imm (.int .i64 0),.imm (.int .i64 0),.imm (.int .i64 0)]),some (.arr Qh s.1),some (.arr (.int .i64) N0),some (.arr Qv s.2)])
   (fun k s=>s.1=QdP Qg f D0 k∧s.2=newK tm f (List.zipWith Qg f D0) N0 k) (D0,[]) (.trans (Le.nil 19 Qv rfl) (Le.mk [] [1,2,3,4,6] R R ?_ ?_)) ⟨(QfW _ _ _).symm,rfl⟩ fun u s hu X=>?_
  ·exact QiQ hI hD
  ·repeat' constructor
  generalize hT0:QL (y,C,n,p,B) (Qk (y,C,n,p,B) (r,op,at_,n0) o).1 I0=T0 at *;generalize(Qk (y,C,n,p,B) (r,op,at_,n0) o)=A0 at *;obtain⟨d,v⟩:=s;obtain⟨K,H⟩:=X;have K:d=QdP Qg f D0 u:=K;have H:v=newK tm f (List.zipWith Qg f D0) N0 u:=H;have hdl1:d.length=f.length:=by rw[K,QbW M.symm hu];exact M
  have J:u<f.length→d.getD u (dflt Qh)=D0.getD u (dflt Qh):=fun h=>by rw[K];exact QbX M.symm h _
  have F:u<f.length→d.set u (Qg (f.getD u (dflt Qe)) (D0.getD u (dflt Qh)))=QdP Qg f D0 (u+1):=fun h=>by rw[K];exact Qbp M.symm h _ _
  have hzl:f.length=(List.zipWith Qg f D0).length:=by rw[Ja];omega
  have V:u<f.length→(List.zipWith Qg f D0).getD u (dflt Qh)=Qg (f.getD u (dflt Qe)) (D0.getD u (dflt Qh)):=fun h=>QgF M.symm h
  have G:u<f.length→newK tm f (List.zipWith Qg f D0) N0 (u+1)=v++(if Qat (f.getD u (dflt Qe)) (Qg (f.getD u (dflt Qe)) (D0.getD u (dflt Qh)))=N0.getD u 0 then [] else [(tm,(f.getD u (dflt Qe)).1,Qat (f.getD u (dflt Qe)) (Qg (f.getD u (dflt Qe)) (D0.getD u (dflt Qh))))]):=fun h=>by
   rw[Qdm hzl hNl.symm h (dflt Qe) (dflt Qh),V h,H]
  have hol:v.length≤f.length:=by
   rw[H];refine YG (QbG _ _ _ _) ?_;rw[Yq];omega
  repeat' first|(apply Ea;conv=>whnf)|apply Eb|apply Ec|apply Ed|apply Ee|(apply Ei;intro _)|apply Ef Z Y
  all_goals(try dsimp only[Qf] at *)
  ·have g:(u:Int)<(f.length:Int):=by assumption
   show 0≤(u:Int)∧(u:Int)<(f.length:Int);omega
  ·have g:(u:Int)<(f.length:Int):=by assumption
   show 0≤(u:Int)∧(u:Int)<(d.length:Int);omega
  ·have g:(u:Int)<(f.length:Int):=by assumption
   show u<d.length;omega
  ·have g:(u:Int)<(f.length:Int):=by assumption
   refine⟨hc _ (QK (dflt Qe) (show u<f.length by omega)),?_⟩;show dP (d.getD u (dflt Qh));rw[J (by omega)];exact hDd _ (QK (dflt Qh) (show u<D0.length by omega))
  ·have g:(u:Int)<(f.length:Int):=by assumption
   show 0≤(u:Int)∧(u:Int)<(d.length:Int);omega
  ·have g:(u:Int)<(f.length:Int):=by assumption
   show u<d.length;omega
  ·have g:(u:Int)<(f.length:Int):=by assumption
   show 0≤(u:Int)∧(u:Int)<(List.length (d.set _ _):Int);rw[YH];omega
  ·have g:(u:Int)<(f.length:Int):=by assumption
   show u<List.length (d.set _ _);rw[YH];omega
  ·have g:(u:Int)<(f.length:Int):=by assumption
   refine⟨hc _ (QK (dflt Qe) (show u<f.length by omega)),?_⟩;show dP ((d.set u (Qg (f.getD u (dflt Qe)) (d.getD u (dflt Qh)))).getD u (dflt Qh));rw[Qau (show u<d.length by omega),J (by omega),←V (by omega)];exact hTd _ (QK (dflt Qh) (show u<(List.zipWith Qg f D0).length by omega))
  ·have g:(u:Int)<(f.length:Int):=by assumption
   show 0≤(u:Int)∧(u:Int)<(N0.length:Int);omega
  ·have g:(u:Int)<(f.length:Int):=by assumption
   show u<N0.length;omega
  ·have g:(u:Int)<(f.length:Int):=by assumption
   show(v.length+1)*32≤140737488355328;omega
  ·rename_i g O;have g:(u:Int)<(f.length:Int):=g;have e1:(d.set u (Qg (f.getD u (dflt Qe)) (d.getD u (dflt Qh)))).getD u (dflt Qh)=Qg (f.getD u (dflt Qe)) (D0.getD u (dflt Qh)):=by rw[Qau (show u<d.length by omega),J (by omega)]
   have O:(Qat (f.getD u (dflt Qe)) ((d.set u (Qg (f.getD u (dflt Qe)) (d.getD u (dflt Qh)))).getD u (dflt Qh)) != N0.getD u 0)=true:=O;rw[e1] at O;have g3:¬Qat (f.getD u (dflt Qe)) (Qg (f.getD u (dflt Qe)) (D0.getD u (dflt Qh)))=N0.getD u 0:=by simpa using O
   have G:=G (by omega);rw[Yb g3] at G;have F:=F (by omega);rw[←J (by omega)] at F;apply Ex (_,_) [] [0,1,2,3,9]
   ·repeat' constructor
   ·omega
   ·exact QJ (by omega)
   refine⟨F,?_⟩;rw[G,←e1]
   try rfl
  ·rename_i g O;have g:(u:Int)<(f.length:Int):=g;have e1:(d.set u (Qg (f.getD u (dflt Qe)) (d.getD u (dflt Qh)))).getD u (dflt Qh)=Qg (f.getD u (dflt Qe)) (D0.getD u (dflt Qh)):=by rw[Qau (show u<d.length by omega),J (by omega)]
   have O:(Qat (f.getD u (dflt Qe)) ((d.set u (Qg (f.getD u (dflt Qe)) (d.getD u (dflt Qh)))).getD u (dflt Qh)) != N0.getD u 0)=false:=O;rw[e1] at O;have g3:Qat (f.getD u (dflt Qe)) (Qg (f.getD u (dflt Qe)) (D0.getD u (dflt Qh)))=N0.getD u 0:=by simpa using O
   have G:=G (by omega);rw[Yf g3,Jd] at G;have F:=F (by omega);rw[←J (by omega)] at F;apply Ex (_,v) [] [0,1,2,3,4]
   ·repeat' constructor
   ·omega
   ·exact QJ (by omega)
   exact⟨F,G.symm⟩
  ·rename_i g;have g:¬(u:Int)<(f.length:Int):=g;have e1:d=List.zipWith Qg f D0:=by rw[K,QbF M.symm (by omega)]
   have e2:v=Qfh tm f (List.zipWith Qg f D0) N0:=by
    rw[H];unfold newK;rw[Yh (by omega),Yh (by omega),Yh (by omega)]
   have e3:i64.wrap (Qam tm (-1) 1099511627775+1)=Qcg tm:=Qf8 tm;have e:((i64.wrap (Qam tm (-1) 1099511627775+1),T0,d,A0.2.1,A0.2.2.1,I0),v)=Qs (E,(y,C,n,p,B),f,D) (tm,(r,op,at_,Q),ds,bd,ba,W) l:=by rw[hcy,e1,e2,e3]
   exact .mk [] [2,4] _ R R R R R (Yv (fun z:Mach×List Inp=>[some (Blk.arr Qh z.1.2.2.1),some (Blk.arr Qv z.2)]) e) (Yv (fun z:Mach×List Inp=>AV.tup [QgG z.1 0,.c (.own 1)]) e)
 ·rename_i gx gb gc;have gx:¬(q:Int)<(f.length:Int):=gx;have ho:=hLine gx;have P:=QdI (b:=(E,(y,C,n,p,B),f,D)) (ds:=d0) (x:=(Qk (y,C,n,p,B) (r,op,at_,n0) o).2) hL1 h3 hok.1
  have hI:(Qk (y,C,n,p,B) (r,op,at_,n0) o).2.2.2=Qb4 (E,(y,C,n,p,B),f,D) d0 (Qk (y,C,n,p,B) (r,op,at_,n0) o).2:=by
   exact(QfX (b:=(E,(y,C,n,p,B),f,D)) (x:=(Qk (y,C,n,p,B) (r,op,at_,n0) o).2) gb).symm
  have hD:d0=QaX (E,(y,C,n,p,B),f,D) d0 (Qk (y,C,n,p,B) (r,op,at_,n0) o).2:=by
   exact(QvW (b:=(E,(y,C,n,p,B),f,D)) (x:=(Qk (y,C,n,p,B) (r,op,at_,n0) o).2) gb gc).symm
  have hcy:Qs (E,(y,C,n,p,B),f,D) (tm,(r,op,at_,Q),ds,bd,ba,W) l=((Qcg tm,QL (y,C,n,p,B) (Qk (y,C,n,p,B) (r,op,at_,n0) o).1 (Qb4 (E,(y,C,n,p,B),f,D) d0 (Qk (y,C,n,p,B) (r,op,at_,n0) o).2),List.zipWith Qg f (QaX (E,(y,C,n,p,B),f,D) d0 (Qk (y,C,n,p,B) (r,op,at_,n0) o).2),(Qk (y,C,n,p,B) (r,op,at_,n0) o).2.1,(Qk (y,C,n,p,B) (r,op,at_,n0) o).2.2.1,Qb4 (E,(y,C,n,p,B),f,D) d0 (Qk (y,C,n,p,B) (r,op,at_,n0) o).2),Qfh tm f (List.zipWith Qg f (QaX (E,(y,C,n,p,B),f,D) d0 (Qk (y,C,n,p,B) (r,op,at_,n0) o).2)) N0):=by
   subst ho;unfold Qs;simp only[eG];rw[←hN0]
  have M:(QaX (E,(y,C,n,p,B),f,D) d0 (Qk (y,C,n,p,B) (r,op,at_,n0) o).2).length=f.length:=by rw[P.2];exact U.symm
  have hDd:∀d∈QaX (E,(y,C,n,p,B),f,D) d0 (Qk (y,C,n,p,B) (r,op,at_,n0) o).2,dP d:=fun d h=>(P.1 d h).dP hL
  have hTd:∀d∈List.zipWith Qg f (QaX (E,(y,C,n,p,B),f,D) d0 (Qk (y,C,n,p,B) (r,op,at_,n0) o).2),dP d:=fun d h=>(QbS h3 P.1 d h).dP hL
  generalize hD1:QaX (E,(y,C,n,p,B),f,D) d0 (Qk (y,C,n,p,B) (r,op,at_,n0) o).2=D0 at *;generalize hI1:Qb4 (E,(y,C,n,p,B),f,D) d0 (Qk (y,C,n,p,B) (r,op,at_,n0) o).2=I0 at *
  refine QA Z Y (A:=List Dv×List Inp) f.length (fun i s=>St.mk (E3 (E1 ((.cell (.ptr 0 0))::E1 ((.cell (.ptr 1 0))::E1 ((.cell (.own 3))::E10 ((.cell (.own 4))::E40 (E40 (E40 (E40 (E40 (E10 (E5 (E3 (E1 ((.cell (.ro Qe f))::(I f.length)::(I i)::E40 (E5 []))))))))))))))))
   [some (.var [iv .i64 tm,.run .i64 9 (QL (y,C,n,p,B) (Qk (y,C,n,p,B) (r,op,at_,n0) o).1 I0).1,iv .i64 (QL (y,C,n,p,B) (Qk (y,C,n,p,B) (r,op,at_,n0) o).1 I0).2.1,iv .i64 (QL (y,C,n,p,B) (Qk (y,C,n,p,B) (r,op,at_,n0) o).1 I0).2.2.1,bv (QL (y,C,n,p,B) (Qk (y,C,n,p,B) (r,op,at_,n0) o).1 I0).2.2.2,.own 2,iv .i64 (Qk (y,C,n,p,B) (r,op,at_,n0) o).2.1,iv .i64 (Qk (y,C,n,p,B) (r,op,at_,n0) o).2.2.1,iv .i64 I0]),
    some (.var [.imm (.int .i64 0),.run .i64 9 (List.replicate 9 0),.imm (.int .i64 0),.imm (.int .i64 0),.imm (.bool false),.imm (.slice none 0 0),.imm (.int .i64 0),.imm (.int .i64 0),.imm (.int .i64 0)]),some (.arr Qh s.1),some (.arr (.int .i64) N0),some (.arr Qv s.2)])
   (fun k s=>s.1=QdP Qg f D0 k∧s.2=newK tm f (List.zipWith Qg f D0) N0 k) (D0,[]) (.trans (Le.nil 19 Qv rfl) (Le.mk [] [1,2,3,4,6] R R ?_ ?_)) ⟨(QfW _ _ _).symm,rfl⟩ fun u s hu X=>?_
  ·exact QiQ hI hD
  ·repeat' constructor
  generalize hT0:QL (y,C,n,p,B) (Qk (y,C,n,p,B) (r,op,at_,n0) o).1 I0=T0 at *;generalize(Qk (y,C,n,p,B) (r,op,at_,n0) o)=A0 at *;obtain⟨d,v⟩:=s;obtain⟨K,H⟩:=X;have K:d=QdP Qg f D0 u:=K;have H:v=newK tm f (List.zipWith Qg f D0) N0 u:=H;have hdl1:d.length=f.length:=by rw[K,QbW M.symm hu];exact M
  have J:u<f.length→d.getD u (dflt Qh)=D0.getD u (dflt Qh):=fun h=>by rw[K];exact QbX M.symm h _
  have F:u<f.length→d.set u (Qg (f.getD u (dflt Qe)) (D0.getD u (dflt Qh)))=QdP Qg f D0 (u+1):=fun h=>by rw[K];exact Qbp M.symm h _ _
  have hzl:f.length=(List.zipWith Qg f D0).length:=by rw[Ja];omega
  have V:u<f.length→(List.zipWith Qg f D0).getD u (dflt Qh)=Qg (f.getD u (dflt Qe)) (D0.getD u (dflt Qh)):=fun h=>QgF M.symm h
  have G:u<f.length→newK tm f (List.zipWith Qg f D0) N0 (u+1)=v++(if Qat (f.getD u (dflt Qe)) (Qg (f.getD u (dflt Qe)) (D0.getD u (dflt Qh)))=N0.getD u 0 then [] else [(tm,(f.getD u (dflt Qe)).1,Qat (f.getD u (dflt Qe)) (Qg (f.getD u (dflt Qe)) (D0.getD u (dflt Qh))))]):=fun h=>by
   rw[Qdm hzl hNl.symm h (dflt Qe) (dflt Qh),V h,H]
  have hol:v.length≤f.length:=by
   rw[H];refine YG (QbG _ _ _ _) ?_;rw[Yq];omega
  repeat' first|(apply Ea;conv=>whnf)|apply Eb|apply Ec|apply Ed|apply Ee|(apply Ei;intro _)|apply Ef Z Y
  all_goals(try dsimp only[Qf] at *)
  ·have g:(u:Int)<(f.length:Int):=by assumption
   show 0≤(u:Int)∧(u:Int)<(f.length:Int);omega
  ·have g:(u:Int)<(f.length:Int):=by assumption
   show 0≤(u:Int)∧(u:Int)<(d.length:Int);omega
  ·have g:(u:Int)<(f.length:Int):=by assumption
   show u<d.length;omega
  ·have g:(u:Int)<(f.length:Int):=by assumption
   refine⟨hc _ (QK (dflt Qe) (show u<f.length by omega)),?_⟩;show dP (d.getD u (dflt Qh));rw[J (by omega)];exact hDd _ (QK (dflt Qh) (show u<D0.length by omega))
  ·have g:(u:Int)<(f.length:Int):=by assumption
   show 0≤(u:Int)∧(u:Int)<(d.length:Int);omega
  ·have g:(u:Int)<(f.length:Int):=by assumption
   show u<d.length;omega
  ·have g:(u:Int)<(f.length:Int):=by assumption
   show 0≤(u:Int)∧(u:Int)<(List.length (d.set _ _):Int);rw[YH];omega
  ·have g:(u:Int)<(f.length:Int):=by assumption
   show u<List.length (d.set _ _);rw[YH];omega
  ·have g:(u:Int)<(f.length:Int):=by assumption
   refine⟨hc _ (QK (dflt Qe) (show u<f.length by omega)),?_⟩;show dP ((d.set u (Qg (f.getD u (dflt Qe)) (d.getD u (dflt Qh)))).getD u (dflt Qh));rw[Qau (show u<d.length by omega),J (by omega),←V (by omega)];exact hTd _ (QK (dflt Qh) (show u<(List.zipWith Qg f D0).length by omega))
  ·have g:(u:Int)<(f.length:Int):=by assumption
   show 0≤(u:Int)∧(u:Int)<(N0.length:Int);omega
  ·have g:(u:Int)<(f.length:Int):=by assumption
   show u<N0.length;omega
  ·have g:(u:Int)<(f.length:Int):=by assumption
   show(v.length+1)*32≤140737488355328;omega
  ·rename_i g O;have g:(u:Int)<(f.length:Int):=g;have e1:(d.set u (Qg (f.getD u (dflt Qe)) (d.getD u (dflt Qh)))).getD u (dflt Qh)=Qg (f.getD u (dflt Qe)) (D0.getD u (dflt Qh)):=by rw[Qau (show u<d.length by omega),J (by omega)]
   have O:(Qat (f.getD u (dflt Qe)) ((d.set u (Qg (f.getD u (dflt Qe)) (d.getD u (dflt Qh)))).getD u (dflt Qh)) != N0.getD u 0)=true:=O;rw[e1] at O;have g3:¬Qat (f.getD u (dflt Qe)) (Qg (f.getD u (dflt Qe)) (D0.getD u (dflt Qh)))=N0.getD u 0:=by simpa using O
   have G:=G (by omega);rw[Yb g3] at G;have F:=F (by omega);rw[←J (by omega)] at F;apply Ex (_,_) [] [0,1,2,3,9]
   ·repeat' constructor
   ·omega
   ·exact QJ (by omega)
   refine⟨F,?_⟩;rw[G,←e1]
   try rfl
  ·rename_i g O;have g:(u:Int)<(f.length:Int):=g;have e1:(d.set u (Qg (f.getD u (dflt Qe)) (d.getD u (dflt Qh)))).getD u (dflt Qh)=Qg (f.getD u (dflt Qe)) (D0.getD u (dflt Qh)):=by rw[Qau (show u<d.length by omega),J (by omega)]
   have O:(Qat (f.getD u (dflt Qe)) ((d.set u (Qg (f.getD u (dflt Qe)) (d.getD u (dflt Qh)))).getD u (dflt Qh)) != N0.getD u 0)=false:=O;rw[e1] at O;have g3:Qat (f.getD u (dflt Qe)) (Qg (f.getD u (dflt Qe)) (D0.getD u (dflt Qh)))=N0.getD u 0:=by simpa using O
   have G:=G (by omega);rw[Yf g3,Jd] at G;have F:=F (by omega);rw[←J (by omega)] at F;apply Ex (_,v) [] [0,1,2,3,4]
   ·repeat' constructor
   ·omega
   ·exact QJ (by omega)
   exact⟨F,G.symm⟩
  ·rename_i g;have g:¬(u:Int)<(f.length:Int):=g;have e1:d=List.zipWith Qg f D0:=by rw[K,QbF M.symm (by omega)]
   have e2:v=Qfh tm f (List.zipWith Qg f D0) N0:=by
    rw[H];unfold newK;rw[Yh (by omega),Yh (by omega),Yh (by omega)]
   have e3:i64.wrap (Qam tm (-1) 1099511627775+1)=Qcg tm:=Qf8 tm;have e:((i64.wrap (Qam tm (-1) 1099511627775+1),T0,d,A0.2.1,A0.2.2.1,I0),v)=Qs (E,(y,C,n,p,B),f,D) (tm,(r,op,at_,Q),ds,bd,ba,W) l:=by rw[hcy,e1,e2,e3]
   exact .mk [] [2,4] _ R R R R R (Yv (fun z:Mach×List Inp=>[some (Blk.arr Qh z.1.2.2.1),some (Blk.arr Qv z.2)]) e) (Yv (fun z:Mach×List Inp=>AV.tup [QgG z.1 0,.c (.own 1)]) e)
end Go.Proofs.YtofgbclopbmlcaaGreat

