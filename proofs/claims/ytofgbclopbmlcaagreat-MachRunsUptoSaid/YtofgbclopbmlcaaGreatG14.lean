/- Part 14 of the proof: PackW TellW MchBnd EqOut MchRuns BoardLaw Map VideoTicks DriveTicks TickD KindW BoardW BoardLawW MchW MchRunsW. No statement is handed in here; conditions: none. -/
import Derived.Test.YtofgbclopbmlcaaGreatG7
import Derived.Test.YtofgbclopbmlcaaGreatG13
import Derived.Test.YtofgbclopbmlcaaGreatG8
import Derived.Test.YtofgbclopbmlcaaGreatG11
import Derived.Test.YtofgbclopbmlcaaGreatG10
import Derived.Test.YtofgbclopbmlcaaGreatG12
import Derived.Test.YtofgbclopbmlcaaGreatG9
import Derived.Test.YtofgbclopbmlcaaGreatG6
namespace Go.Proofs.YtofgbclopbmlcaaGreat
open Go.Fw
set_option linter.unusedVariables false
set_option linter.unusedSimpArgs false
open Go.ChangeShapes Go.WideShapes in
theorem Qdi {x:Int} (h:(Lit.int .i64 x).wf=true):Qao x:=by
 have:-9223372036854775808≤x∧x≤9223372036854775807:=by simpa [Lit.wf,IntKind.min,IntKind.max,IntKind.signed,IntKind.bits] using h
 exact this
theorem Qfj {k:IntKind} (l:List Int):(List.map (bd (.int k)) l).sum=l.length:=by
 induction l with
 |nil=>rfl
 |cons x r ih =>
   show bd (.int k) x+(List.map (bd (.int k)) r).sum=_
   rw [ih,List.length_cons]
   show 1+r.length=r.length+1
   omega
theorem QD4 (d:Dv):Qbj d≤10*bd Qp d:=by
 have e:bd Qp d=((List.map (bd (.int .i64)) d.1).sum+1)+((List.map (bd (.int .u8)) d.2).sum+1):=rfl
 rw [e,Qfj,Qfj]
 unfold Qbj
 omega
theorem QBj (ds:List Dv):(ds.map Qbj).sum≤10*(List.map (bd Qp) ds).sum:=by
 induction ds with
 |nil=>simp
 |cons x r ih =>
   have:=QD4 x
   show Qbj x+(r.map Qbj).sum≤10*(bd Qp x+(List.map (bd Qp) r).sum)
   omega
theorem Qxt {m:Mach} (h:Wf QhT m) (hb:bd QhT m≤1048576):Qci m:=by
 obtain ⟨tm,⟨r,op,at_,nmi⟩,ds,b1,b2,b3⟩:=m
 obtain ⟨w1,⟨⟨w2,w3⟩,w4,w5,_⟩,⟨w6,w7⟩,w8,w9,w10⟩:=h
 have e:bd QhT (tm,(r,op,at_,nmi),ds,b1,b2,b3)=1+((9+(1+(1+1)))+(((List.map (bd Qp) ds).sum+1)+(1+(1+1)))):=rfl
 rw [e] at hb
 have h1:=QBj ds
 have h2:=Qjr ds
 refine ⟨?_,fun d hd n hn=>Qdi ((w7 d hd).1.2 n hn),w2,by show (ds.map Qbj).sum≤_;omega⟩
 intro n hn
 have hn:n ∈ [tm]++r++[op,at_,cond nmi 1 0,b1,b2,b3,(ds.length:Int)]:=hn
 rcases List.mem_append.1 hn with hn |hn
 ·rcases List.mem_append.1 hn with hn |hn
  ·rw [List.mem_singleton] at hn;subst hn;exact Qdi w1
  ·exact Qdi (w3 n hn)
 ·simp only [List.mem_cons,List.not_mem_nil,or_false] at hn
  rcases hn with rfl |rfl |rfl |rfl |rfl |rfl |rfl
  ·exact Qdi w4
  ·exact Qdi w5
  ·cases nmi<;>(unfold Qao;decide)
  ·exact Qdi w8
  ·exact Qdi w9
  ·exact Qdi w10
  ·unfold Qao;omega
theorem QmV {α:Type} (m:α→Nat):∀ {l:List α} {x:α},x ∈ l→m x≤(l.map m).sum
 | [],_,h=>by cases h
 |y :: r,x,h=>by
   rw [List.map_cons,List.sum_cons]
   rcases List.mem_cons.1 h with rfl |h
   ·omega
   ·have:=QmV m h;omega
theorem QgA {l:List Cyc} (h:Wf (.sl QA) l):Qdp l:=⟨h.1,fun x hx=>(h.2 x hx).2.2.2.1⟩
theorem Quv {c:Cpu} (h:Wf QAe c):QtB c∧(Qdp c.2.2.1∧Qdp c.2.2.2.1∧Qdp c.2.2.2.2) :=
 ⟨⟨h.2.1.1,fun x hx=>QgA (h.2.1.2 x hx).2.2.2⟩,QgA h.2.2.1,QgA h.2.2.2.1,QgA h.2.2.2.2⟩
theorem Qxu {c:Cpu} {k:Kor} (hk:k.1.length=9) (h:Wf QAe c):Qck c k:=⟨(Quv h).1,(Quv h).2,hk⟩
set_option linter.constructorNameAsVariable false
set_option maxRecDepth 100000
theorem Qfk {P:Int→Prop} (h0:P 0) {l:List Int} (h:∀ x ∈ l,P x) (a:Int):P (QbB l a):=by
 unfold QbB
 split
 ·exact h0
 ·split
  ·exact h0
  ·rename_i h1 h2
   rw [List.getD_eq_getElem?_getD,List.getElem?_eq_getElem (show a.toNat < l.length by omega)]
   exact h _ (List.getElem_mem _)
theorem QbM {v:Int} (h:-1048576≤v∧v≤1048576):Qao v:=by unfold Qao;omega
theorem QdP:Qao 0:=QbM (by decide)
theorem Qxv (N:List Int):0≤Qr5 N∧Qr5 N < 256:=by
 have h1:=Qhs (A:=N.getD 1 0) (B:=N.getD 2 0)
 have h2:=Qcv (x:=N.getD 0 0%256) (y:=N.getD 2 0%256) (by omega)
 exact QDq h1 h2
theorem Quw {c:Cv} (hc:cP c) {d:Dv} (hu:u8s d.2) (a:Int):Qao (Qcg c d a):=by
 unfold Qcg
 split
 ·have:=Qjk (Qhh c hu) (QN c (Qev c d) a).toNat
  exact QbM (by omega)
 ·split
  ·have h:=(QoD hc d.1).1
   generalize memN c d.1=l at *
   cases l with
   |nil=>exact QdP
   |cons x r=>exact h x (List.mem_cons_self ..)
  ·exact QdP
theorem Qux {c:Cv} (hc:cP c) {d:Dv} (hu:u8s d.2) (a:Int):Qao (QfI c d a):=by
 have hb:=Qi9
 refine Qhn _ (Quw hc hu a) ?_ ?_ ?_ ?_ ?_ ?_ QdP
 ·refine Qfk QdP (fun x hx=>QbM ?_) a
  simp only [List.mem_cons,List.not_mem_nil,or_false] at hx
  dsimp only [tA,tC,tF] at hx
  rcases hx with rfl |rfl |rfl |rfl<;>omega
 ·refine Qfk QdP (fun x hx=>QbM ?_) a
  have:=Qxv d.1
  simp only [List.mem_cons,List.not_mem_nil,or_false] at hx
  rcases hx with rfl |rfl<;>omega
 ·refine Qfk QdP (fun x hx=>QbM ?_) a
  have:=hb (decide (s1 d.1 > 0))
  simp only [List.mem_cons,List.not_mem_nil,or_false] at hx
  generalize Qdo (decide (s1 d.1 > 0))=z at *
  dsimp only [s2,s3,s4,s5] at hx
  rcases hx with rfl |rfl |rfl<;>omega
 ·have:=Qeu d.1
  have h2:=Qjk (Qf9 hu) a.toNat
  refine QbM ?_
  unfold vrF
  dsimp only [vH,bA]
  repeat' split
  all_goals omega
 ·refine Qfk QdP (fun x hx=>QbM ?_) a
  simp only [List.mem_cons,List.not_mem_nil,or_false] at hx
  rcases hx with rfl |rfl |rfl |rfl |rfl |rfl |rfl |rfl<;>omega
 ·refine Qfk QdP (fun x hx=>QbM ?_) a
  have h1:=hb (decide (e2 d.1 > 0))
  have h2:=hb (decide (e0 d.1 (qF d.2)=0))
  simp only [List.mem_cons,List.not_mem_nil,or_false] at hx
  generalize Qdo (decide (e2 d.1 > 0))=z at *
  generalize Qdo (decide (e0 d.1 (qF d.2)=0))=y at *
  dsimp only [e1,e6,e7,e8,e9] at hx
  rcases hx with rfl |rfl |rfl |rfl<;>omega
def QEw (c:Cpu):Prop:=∀ op at_,Qao (doF c op at_).1
theorem QBk {c:Cpu} (h:Wf QAe c) (op:Int):∀ x ∈ QV c op,Wf QA x:=by
 unfold QV
 split
 ·exact h.2.2.2.1.2
 ·split
  ·exact h.2.2.2.2.2
  ·split
   ·exact h.2.2.1.2
   ·split
    ·rename_i x hx
     exact (h.2.1.2 x (List.mem_of_find?_eq_some hx)).2.2.2.2
    ·intro x hx;cases hx
theorem QBl {c:Cpu} (h:Wf QAe c):QEw c:=by
 intro op at_
 unfold doF
 split
 ·by_cases hk:at_.toNat < (QV c op).length
  ·rw [List.getD_eq_getElem?_getD,List.getElem?_eq_getElem hk]
   exact Qdi (QBk h op _ (List.getElem_mem hk)).1
  ·rw [List.getD_eq_getElem?_getD,List.getElem?_eq_none (by omega)];exact QdP
 ·exact QdP
theorem Quy {c:Cpu} {k:Kor} {i:Bool} (h:Qao k.2.1∧Qao k.2.2.1):Qao (Qa0 c k i).2.1∧Qao (Qa0 c k i).2.2.1:=by
 unfold Qa0
 split
 ·exact ⟨(QbM (by decide):Qao 257),QdP⟩
 ·split
  ·exact ⟨(QbM (by decide):Qao 256),QdP⟩
  ·exact h
theorem QBm {c:Cpu} {k:Kor} {i:Bool} (hw:QEw c) (h:Qao k.2.1∧Qao k.2.2.1) :
 (Qao (Qw c k i).1.2.1∧Qao (Qw c k i).1.2.2.1)∧Qao (Qw c k i).2.1∧Qao (Qw c k i).2.2.1∧Qao (Qw c k i).2.2.2:=by
 have h16:r16 (QJ k.1):=Qhw k.1
 have hk1:(Qao (if k.2.1=-1 then Qa0 c (QJ k.1,k.2) i else (QJ k.1,k.2)).2.1∧Qao (if k.2.1=-1 then Qa0 c (QJ k.1,k.2) i else (QJ k.1,k.2)).2.2.1)∧r16 (if k.2.1=-1 then Qa0 c (QJ k.1,k.2) i else (QJ k.1,k.2)).1:=by
  split
  ·exact ⟨Quy h,by rw [Qd2];exact h16⟩
  ·exact ⟨h,h16⟩
 unfold Qw
 dsimp only
 generalize (if k.2.1=-1 then Qa0 c (QJ k.1,k.2) i else (QJ k.1,k.2))=k1 at *
 obtain ⟨k2,k3⟩:=hk1
 have hA:∀ a,Qao (plA a k1.1):=fun a=>by have:=QtU a k3;exact QbM (by omega)
 split
 ·exact ⟨k2,(QbM (by decide):Qao 1),hA 0,QdP⟩
 ·split
  ·exact ⟨k2,QdP,QdP,QdP⟩
  ·refine ⟨k2,hw _ _,hA _,?_⟩
   dsimp only
   split
   ·exact QbM (by omega)
   ·exact QdP
theorem Qxw {L:Nat} {b:Bd} {ds:List Dv} {x:Bsv} (hL:70000≤L) (hc:QqH L b.2.2.1) (hd:Qgy L ds) (hx:Qao x.2.2):Qao (Qc0 b ds x):=by
 unfold Qc0
 split
 ·split
  ·exact Qux (hc.get hL _).1 (hd.get _).u _
  ·exact QbM (by decide)
 ·exact hx
theorem Qxx {L:Nat} {b:Bd} {m:Mach} (l:List Inp) (h:MOk L b m) (hz:m.2.2.1.length*(L+200)≤1099511627776) (ht:Qck b.2.1 m.2.1) (hw:QEw b.2.1) (ho:Qao m.2.1.2.1∧Qao m.2.1.2.2.1) :
 (Qci (Qz b m l).1∧Qj0 (Qz b m l).1)∧Qao (Qz b m l).1.2.1.2.1∧Qao (Qz b m l).1.2.1.2.2.1:=by
 have h1:=Qd5 (t:=m.1) h.c l (s:=(m.2.2.1,m.2.1.2.2.2)) h.d h.l
 have hlen:=(QoX l h).2
 have ha:=QBm (c:=b.2.1) (k:=(m.2.1.1,m.2.1.2.1,m.2.1.2.2.1,(QR b.2.2.1 m.1 l (m.2.2.1,m.2.1.2.2.2)).2)) (i:=Qax b (QR b.2.2.1 m.1 l (m.2.2.1,m.2.1.2.2.2)).1) hw ho
 unfold Qz at hlen ⊢
 dsimp only at hlen ⊢
 generalize QR b.2.2.1 m.1 l (m.2.2.1,m.2.1.2.2.2)=g at *
 generalize Qw b.2.1 (m.2.1.1,m.2.1.2.1,m.2.1.2.2.1,g.2) (Qax b g.1)=a at *
 have h2:=QdM (b:=b) (x:=a.2) h.L1 h.c h1.1
 have h3:=Qxw (b:=b) (x:=a.2) h.L1 h.c h1.1 ha.2.2.2
 have h4:∀ d ∈ List.zipWith Qn b.2.2.1 (Qbo b g.1 a.2),(Q5 d.1∧u8s d.2)∧List.length d.2≤L:=fun d hd=>by
  obtain ⟨c,hc,e,he,rfl⟩:=QmM hd
  have h5:=Qlh (h.c c hc).1 (h2.1 e he)
  have h6:=(h.c c hc).2
  exact ⟨⟨h5.n,h5.u⟩,by have:=h5.l;omega⟩
 have h5:=Qw6 (c:=b.2.1) (k:=a.1) (d:=Qc0 b g.1 a.2) ha.1.1 ha.1.2
 have h6:Qao (QS b.2.1 a.1 (Qc0 b g.1 a.2)).2.2.1:=by
  rcases h5.2 with h5 |h5
  ·exact h5
  ·have:=(QmG ht.1 ht.2.1 a.1.2.1).1;omega
 have h7:=Qls b.2.1 a.1 (Qc0 b g.1 a.2)
 have h8:=Qw5 b.2.1 a.1 (Qc0 b g.1 a.2)
 generalize List.zipWith Qn b.2.2.1 (Qbo b g.1 a.2)=ds at *
 generalize Qc0 b g.1 a.2=I at *
 have hn:ds.length≤1099511627776:=by
  have:ds.length*1≤m.2.2.1.length*(L+200):=Nat.mul_le_mul (by omega) (by omega)
  omega
 refine ⟨⟨⟨?_,fun d hd=>(h4 d hd).1.1.1,h7,?_⟩,fun d hd=>(h4 d hd).1.2⟩,h5.1,h6⟩
 ·intro n hn
  have hn:n ∈ [Qed m.1]++(QS b.2.1 a.1 I).1++[(QS b.2.1 a.1 I).2.1,(QS b.2.1 a.1 I).2.2.1,cond (QS b.2.1 a.1 I).2.2.2 1 0,a.2.1,a.2.2.1,I,(ds.length:Int)]:=hn
  rcases List.mem_append.1 hn with hn |hn
  ·rcases List.mem_append.1 hn with hn |hn
   ·rw [List.mem_singleton] at hn;subst hn
    unfold Qed Qao;omega
   ·have:=h8 n hn;exact QbM (by omega)
  ·simp only [List.mem_cons,List.not_mem_nil,or_false] at hn
   rcases hn with rfl |rfl |rfl |rfl |rfl |rfl |rfl
   ·exact h5.1
   ·exact h6
   ·cases (QS b.2.1 a.1 I).2.2.2<;>exact QbM (by decide)
   ·exact ha.2.1
   ·exact ha.2.2.1
   ·exact h3
   ·unfold Qao;omega
 ·have h9:=QyU (f:=Qbj) (B:=L+200) (l:=ds) fun d hd=>by
   have:=h4 d hd
   have:=this.1.1.2
   unfold Qbj;omega
  show (ds.map Qbj).sum≤_
  rw [hlen] at h9
  omega
theorem QlI {L:Nat} {b:Bd} {l:List Inp} {m:Mach} (h:MOk L b m) (hz:m.2.2.1.length*(L+200)≤1099511627776) (ht:Qck b.2.1 m.2.1) (hw:QEw b.2.1) (hm:Qci m∧Qj0 m) :
 ∀ k,(Qci (Qel b l k (m,[])).1∧Qj0 (Qel b l k (m,[])).1)∧(Qao (Qel b l k (m,[])).1.2.1.2.1∧Qao (Qel b l k (m,[])).1.2.1.2.2.1)
 |0=>⟨hm,hm.1.1 m.2.1.2.1 (List.mem_append_right _ (List.mem_cons_self ..)),hm.1.1 m.2.1.2.2.1 (List.mem_append_right _ (List.mem_cons_of_mem _ (List.mem_cons_self ..)))⟩
 |k+1=>by
   have h1:=QhF (l:=l) h ht k
   have h2:=QlI (l:=l) h hz ht hw hm k
   rw [QdO]
   refine Qxx l h1.1 ?_ h1.2.1 hw h2.2
   rw [← h1.1.l,h.l];exact hz
theorem QlJ {m:Mach} (h:Qci m):QuI m.2.2.1:=by
 have h1:=h.2.2.2
 have h2:=Qjr m.2.2.1
 refine ⟨by omega,fun d hd=>?_⟩
 have h3:=Qgr hd
 unfold Qbj at h1 h3
 constructor<;>omega
theorem QlK {x y:Inp}:QF QL x y=true ↔ x=y:=⟨fun h=>Qc5 (u:=QL) rfl h,fun h=>by subst h;exact QcU rfl⟩
noncomputable def QyX:Qk:=⟨[⟨false,.sl QL⟩,⟨false,.sl QL⟩],fun (l,m,_)=>(some (List.length l≤4611686018427387904),.cell (bv (eqB (α:=List Inp) l m)),[])⟩
theorem Qxy:Qi Tryz.prog 24 QyX.spec:=by
 have hP:Qe Tryz.prog _:=(Qc (T:=tree))
 have hT:=tabs hP Qf
 refine QyX.good (fn:=Tryz.f24) hT hP Tryz.func24 (by kernel_rfl) rfl fun (l m:List Inp) hq=>?_
 have hl:l.length≤4611686018427387904:=hq _ rfl
 clear hq
 repeat' first |(refine Go.mk ?_;conv=>whnf) |refine Ql.go ?_ ?_ |refine Qm.go (fun _=>?_) (fun _=>?_) |refine Br.dec (fun _=>?_) (fun _=>?_) |refine Br.go (fun _=>?_) (fun _=>?_) |refine Qd hT hP mixed ?_ |refine Qb hT hP ?_
 ·rename_i h
  have h:(l.length:Int)≠(m.length:Int):=by simpa using h
  exact .mk [] [] _ R R R R R R (Qo (QAR (fun e=>h (by rw [e]))).symm)
 rename_i h
 have h:(l.length:Int)=(m.length:Int):=by simpa using h
 have hm:l.length=m.length:=by omega
 refine QO hT hP (A:=Unit) l.length (fun i _=>St.mk ((.cell (.ro QL l)) :: (.cell (.ro QL m)) :: E10 ((I (l.length:Int)) :: (I i) :: E10 (E2 []))) [])
  (fun k _=>l.take k=m.take k) () (Le.mk [] [] R R R ?_) (by simp) fun k _ hk hi=>?_
 ·repeat' first |exact trivial |exact ⟨rfl,rfl⟩ |refine And.intro ?_ ?_
 repeat' first |(refine Go.mk ?_;conv=>whnf) |refine Ql.go ?_ ?_ |refine Qm.go (fun _=>?_) (fun _=>?_) |refine Br.dec (fun _=>?_) (fun _=>?_) |refine Br.go (fun _=>?_) (fun _=>?_) |refine Qd hT hP mixed ?_ |refine Qb hT hP ?_
 all_goals clear hT hP
 all_goals first
  |(rename_i g1
     have g1:(k:Int) < (l.length:Int):=g1
     first
      |(show 0≤(k:Int)∧(k:Int) < (l.length:Int)
         omega)
      |(show 0≤(k:Int)∧(k:Int) < (m.length:Int)
         omega))
  |(rename_i g1 h2
     have g1:(k:Int) < (l.length:Int):=g1
     have h2:(!QF QL (l.getD k (dflt QL)) (m.getD k (dflt QL)))=true:=h2
     have hne:l.getD k (dflt QL)≠m.getD k (dflt QL):=fun e=>by
      rw [QlK.2 e] at h2;cases h2
     exact .mk [] [] _ R R R R R R (Qo (QAR (QF8 (dflt QL) hne)).symm))
  |(rename_i g1 h2
     have g1:(k:Int) < (l.length:Int):=g1
     have h2:(!QF QL (l.getD k (dflt QL)) (m.getD k (dflt QL)))=false:=h2
     have he:l.getD k (dflt QL)=m.getD k (dflt QL):=QlK.1 (by simpa using h2)
     apply Exists.intro
     apply Exists.intro ()
     refine And.intro (And.intro ?lt49 (And.intro ?ei49 ?inv49)) (Le.mk [] [] R R ?hh49 ?ht49)
     case hh49=>exact rfl
     case ht49=>repeat' first |exact trivial |exact ⟨rfl,rfl⟩ |refine And.intro ?_ ?_
     case lt49=>omega
     case ei49=>exact QW (by omega)
     exact QAQ (dflt QL) (by omega) (by omega) hi he)
  |(rename_i g1
     have g1:¬ (k:Int) < (l.length:Int):=g1
     exact .mk [] [] _ R R R R R R (Qo (Qlo (QAP hm (by omega) hi)).symm))
structure QeG (b:Bd) (m:Mach) (l:List Inp):Prop where
 s:stP b m l
 o:QuI m.2.2.1
 t:Qck b.2.1 m.2.1
 gm:Qci m∧Qj0 m
 mo:b.2.2.1.length=m.2.2.1.length→∃ L,MOk L b m
 gr:b.2.2.1.length=m.2.2.1.length→∀ k,Qci (Qel b l k (m,[])).1∧Qj0 (Qel b l k (m,[])).1
theorem QfR:Qci Qh0∧Qj0 Qh0:=⟨QGf,fun d hd=>by cases hd⟩
theorem QjW {b:Bd} {m:Mach} {l:List Inp} {n:Int} (h:QcX b m l n=0):QaU b m l=0∧0≤n∧n≤100000:=by
 unfold QcX at h
 split at h
 ·rename_i h1;exact absurd h h1
 ·rename_i h1
  split at h
  ·cases h
  ·split at h
   ·cases h
   ·exact ⟨by simpa using h1,by omega,by omega⟩
theorem QeG.len {b:Bd} {m:Mach} {l:List Inp} {n:Int} (h:QcX b m l n=0):b.2.2.1.length=m.2.2.1.length:=(Qfg (QjW h).1).2.1.symm
theorem QeG.mrn {b:Bd} {m:Mach} {l:List Inp} (h:QeG b m l):QDZ b m l:=⟨⟨h.o,h.s.2,h.s.1⟩,fun _=>h.t,fun he=>h.mo (QeG.len he)⟩
theorem QeG.mcy {b:Bd} {m:Mach} {l:List Inp} (h:QeG b m l):QGg b m l:=⟨⟨h.o,h.s.2,h.s.1.1⟩,h.t,h.mo⟩
theorem QeG.rcy {b:Bd} {m:Mach} {l:List Inp} (h:QeG b m l) (he:b.2.2.1.length=m.2.2.1.length):QGh b m l:=⟨⟨h.o,h.s.2,h.s.1.1⟩,h.t,h.mo he⟩
theorem QeG.ran {b:Bd} {m:Mach} {l:List Inp} {n:Int} (h:QeG b m l) (he:QcX b m l n=0):QGj b m l n:=by
 have h1:=QjW he
 have hl:=QeG.len he
 exact ⟨h.s.2,h.s.1.1,h.t,(QjR (Qfg h1.1).1).1,h1.2.1,h1.2.2,fun k _=>QlJ (h.gr hl k).1,h.mo hl⟩
theorem QeG.gcy {b:Bd} {m:Mach} {l:List Inp} (h:QeG b m l):Qci (QjS b m l).1∧Qj0 (QjS b m l).1:=by
 unfold QjS
 split
 ·rename_i he;exact h.gr he.symm 1
 ·exact h.gm
theorem QeG.gcc {b:Bd} {m:Mach} {l:List Inp} (h:QeG b m l) (he:b.2.2.1.length=m.2.2.1.length):Qci (Qz b m l).1∧Qj0 (Qz b m l).1:=h.gr he 1
theorem QeG.grm {b:Bd} {m:Mach} {l:List Inp} (h:QeG b m l) (n:Int):Qci (QhE b m l n).1∧Qj0 (QhE b m l n).1:=by
 unfold QhE
 split
 ·rename_i he;exact h.gr (QeG.len he) _
 ·exact QfR
theorem QeG.grr {b:Bd} {m:Mach} {l:List Inp} {n:Int} (h:QeG b m l) (he:QcX b m l n=0):Qci (Qel b l n.toNat (m,[])).1∧Qj0 (Qel b l n.toNat (m,[])).1:=h.gr (QeG.len he) _
theorem QeG.lcy {b:Bd} {m:Mach} {l:List Inp} (h:QeG b m l):(QjS b m l).2.length≤4611686018427387904:=by
 have h1:=h.s.1.1.1.1
 unfold QjS
 split
 ·have h2:(Qz b m l).2.length≤b.2.2.1.length:=Qbm _ _ _ _
  omega
 ·exact Nat.zero_le _
theorem QeG.lrm {b:Bd} {m:Mach} {l:List Inp} (h:QeG b m l) (n:Int):(QhE b m l n).2.length≤4611686018427387904:=by
 unfold QhE
 split
 ·rename_i he
  obtain ⟨L,hM⟩:=h.mo (QeG.len he)
  have h1:=(QhF (l:=l) hM h.t n.toNat).2.2
  have h2:=(QjR (Qfg (QjW he).1).1).1
  have h3:n.toNat*b.2.2.1.length≤100000*12:=Nat.mul_le_mul (by have:=QjW he;omega) h2
  omega
 ·exact Nat.zero_le _
def QBn:Qk:=⟨[gBd,gM,gIn,gi],fun (b,m,l,n,_)=>(some (QeG b m l),.cell (bv true),[])⟩
set_option maxHeartbeats 8000000 in
theorem QD5:Qi Tryz.prog 5 QBn.spec:=by
 have hP:Qe Tryz.prog _:=Qa QmT (Qa Quq (Qa QtN (Qa QiA (Qa Qxy (Qa Qus (Qa Qqz (Qa QBh (Qa Qur (Qc (T:=tree))))))))))
 have hT:=tabs hP Qf
 refine QBn.good (fn:=Tryz.f5) hT hP Tryz.func5 (by kernel_rfl) rfl fun (b:Bd) (m:Mach) (l:List Inp) (n:Int) hq=>?_
 have hp:QeG b m l:=hq _ rfl
 clear hq
 have hC1:¬ m.2.2.1.length=b.2.2.1.length→QjS b m l=(m,[]):=fun h=>if_neg h
 have hC2:m.2.2.1.length=b.2.2.1.length→QjS b m l=Qz b m l:=fun h=>if_pos h
 have hM1:∀ n,QcX b m l n≠0→QhE b m l n=(Qh0,[]):=fun n h=>if_neg h
 have hM2:∀ n,QcX b m l n=0→QhE b m l n=Qel b l n.toNat (m,[]):=fun n h=>if_pos h
 obtain ⟨bn,⟨un,ui,ur,uq,um⟩,bc,bw⟩:=b
 obtain ⟨tm,⟨r,op,at_,nmi⟩,ds,bd,ba,bdt⟩:=m
 have sA:¬ ds.length=bc.length→(QjS (bn,(un,ui,ur,uq,um),bc,bw) (tm,(r,op,at_,nmi),ds,bd,ba,bdt) l).2=[]∧Qp9 (QjS (bn,(un,ui,ur,uq,um),bc,bw) (tm,(r,op,at_,nmi),ds,bd,ba,bdt) l).1 (tm,(r,op,at_,nmi),ds,bd,ba,bdt)=true:=fun h=>by rw [hC1 h];exact ⟨rfl,Qlo rfl⟩
 have sB:ds.length=bc.length→eqB (α:=List Inp) (QjS (bn,(un,ui,ur,uq,um),bc,bw) (tm,(r,op,at_,nmi),ds,bd,ba,bdt) l).2 (Qz (bn,(un,ui,ur,uq,um),bc,bw) (tm,(r,op,at_,nmi),ds,bd,ba,bdt) l).2=true∧Qp9 (QjS (bn,(un,ui,ur,uq,um),bc,bw) (tm,(r,op,at_,nmi),ds,bd,ba,bdt) l).1 (Qz (bn,(un,ui,ur,uq,um),bc,bw) (tm,(r,op,at_,nmi),ds,bd,ba,bdt) l).1=true:=fun h=>by rw [hC2 h];exact ⟨Qlo rfl,Qlo rfl⟩
 have sC:∀ n,QcX (bn,(un,ui,ur,uq,um),bc,bw) (tm,(r,op,at_,nmi),ds,bd,ba,bdt) l n≠0→(QhE (bn,(un,ui,ur,uq,um),bc,bw) (tm,(r,op,at_,nmi),ds,bd,ba,bdt) l n).2=[]∧Qp9 (QhE (bn,(un,ui,ur,uq,um),bc,bw) (tm,(r,op,at_,nmi),ds,bd,ba,bdt) l n).1 (0,(List.replicate 9 0,0,0,false),[],0,0,0)=true:=fun n h=>by rw [hM1 n h];exact ⟨rfl,Qlo rfl⟩
 have sD:∀ n,QcX (bn,(un,ui,ur,uq,um),bc,bw) (tm,(r,op,at_,nmi),ds,bd,ba,bdt) l n=0→eqB (α:=List Inp) (QhE (bn,(un,ui,ur,uq,um),bc,bw) (tm,(r,op,at_,nmi),ds,bd,ba,bdt) l n).2 (Qel (bn,(un,ui,ur,uq,um),bc,bw) l n.toNat ((tm,(r,op,at_,nmi),ds,bd,ba,bdt),[])).2=true∧Qp9 (QhE (bn,(un,ui,ur,uq,um),bc,bw) (tm,(r,op,at_,nmi),ds,bd,ba,bdt) l n).1 (Qel (bn,(un,ui,ur,uq,um),bc,bw) l n.toNat ((tm,(r,op,at_,nmi),ds,bd,ba,bdt),[])).1=true:=fun n h=>by rw [hM2 n h];exact ⟨Qlo rfl,Qlo rfl⟩
 have ff:∀ {b:Bool},b=true→(!b)=true→False:=fun h h2=>by rw [h] at h2;cases h2
 have ft:∀ {b:Bool},b=true→b=false→False:=fun h h2=>by rw [h] at h2;cases h2
 repeat' first |(refine Go.mk ?_;conv=>whnf) |refine Ql.go ?_ ?_ |refine Qm.go (fun _=>?_) (fun _=>?_) |refine Br.dec (fun _=>?_) (fun _=>?_) |refine Br.go (fun _=>?_) (fun _=>?_) |refine Qd hT hP mixed ?_ |refine Qb hT hP ?_
 all_goals (try dsimp only [Qj] at *)
 all_goals clear hT hP
 all_goals first
  |exact hp.mcy
  |exact hp.mrn
  |exact hp.s
  |exact ⟨hp.gcy,hp.gm⟩
  |exact ⟨hp.grm 1,QfR⟩
  |exact ⟨hp.grm n,QfR⟩
  |exact hp.lcy
  |exact hp.lrm 1
  |exact hp.lrm n
  |exact hp.rcy (eqN (by assumption)).symm
  |exact hp.ran (Qav (by assumption))
  |exact ⟨hp.gcy,hp.gcc (eqN (by assumption)).symm⟩
  |exact ⟨hp.grm 1,hp.grr (Qav (by assumption))⟩
  |exact ⟨hp.grm n,hp.grr (Qav (by assumption))⟩
  |(exfalso;exact absurd (show QcX (bn,(un,ui,ur,uq,um),bc,bw) (tm,(r,op,at_,nmi),ds,bd,ba,bdt) l n=0 by assumption) (Qcl (x:=QcX (bn,(un,ui,ur,uq,um),bc,bw) (tm,(r,op,at_,nmi),ds,bd,ba,bdt) l n) (by assumption)))
  |(exfalso;exact absurd (Qav (x:=QcX (bn,(un,ui,ur,uq,um),bc,bw) (tm,(r,op,at_,nmi),ds,bd,ba,bdt) l n) (by assumption)) (show ¬ QcX (bn,(un,ui,ur,uq,um),bc,bw) (tm,(r,op,at_,nmi),ds,bd,ba,bdt) l n=0 by assumption))
  |(exfalso;exact absurd (show ((QjS (bn,(un,ui,ur,uq,um),bc,bw) (tm,(r,op,at_,nmi),ds,bd,ba,bdt) l).2.length:Int) > 0 by assumption) (by rw [(sA (neN (by assumption))).1];decide))
  |(exfalso;exact ff (sA (neN (by assumption))).2 (by assumption))
  |(exfalso;exact ff (sB (eqN (by assumption))).1 (by assumption))
  |(exfalso;exact ff (sB (eqN (by assumption))).2 (by assumption))
  |(exfalso;exact absurd (show (QcX (bn,(un,ui,ur,uq,um),bc,bw) (tm,(r,op,at_,nmi),ds,bd,ba,bdt) l 1 != QcX (bn,(un,ui,ur,uq,um),bc,bw) (tm,(r,op,at_,nmi),ds,bd,ba,bdt) l 1)=true by assumption) (by rw [bne_self_eq_false];decide))
  |(exfalso;exact absurd (show ((QhE (bn,(un,ui,ur,uq,um),bc,bw) (tm,(r,op,at_,nmi),ds,bd,ba,bdt) l 1).2.length:Int) > 0 by assumption) (by rw [(sC 1 (Qcl (x:=QcX (bn,(un,ui,ur,uq,um),bc,bw) (tm,(r,op,at_,nmi),ds,bd,ba,bdt) l 1) (by assumption))).1];decide))
  |(exfalso;exact ff (sC 1 (Qcl (x:=QcX (bn,(un,ui,ur,uq,um),bc,bw) (tm,(r,op,at_,nmi),ds,bd,ba,bdt) l 1) (by assumption))).2 (by assumption))
  |(exfalso;exact ff (sD 1 (Qav (x:=QcX (bn,(un,ui,ur,uq,um),bc,bw) (tm,(r,op,at_,nmi),ds,bd,ba,bdt) l 1) (by assumption))).1 (by assumption))
  |(exfalso;exact ff (sD 1 (Qav (x:=QcX (bn,(un,ui,ur,uq,um),bc,bw) (tm,(r,op,at_,nmi),ds,bd,ba,bdt) l 1) (by assumption))).2 (by assumption))
  |(exfalso;exact absurd rfl (show ¬ QcX (bn,(un,ui,ur,uq,um),bc,bw) (tm,(r,op,at_,nmi),ds,bd,ba,bdt) l n=QcX (bn,(un,ui,ur,uq,um),bc,bw) (tm,(r,op,at_,nmi),ds,bd,ba,bdt) l n by assumption))
  |(exfalso;exact absurd (show ((QhE (bn,(un,ui,ur,uq,um),bc,bw) (tm,(r,op,at_,nmi),ds,bd,ba,bdt) l n).2.length:Int)=0 by rw [(sC n (Qcl (x:=QcX (bn,(un,ui,ur,uq,um),bc,bw) (tm,(r,op,at_,nmi),ds,bd,ba,bdt) l n) (by assumption))).1];rfl) (by assumption))
  |(exfalso;exact ft (sD n (Qav (x:=QcX (bn,(un,ui,ur,uq,um),bc,bw) (tm,(r,op,at_,nmi),ds,bd,ba,bdt) l n) (by assumption))).1 (by assumption))
  |(exfalso;exact ft (b:=QcX (bn,(un,ui,ur,uq,um),bc,bw) (tm,(r,op,at_,nmi),ds,bd,ba,bdt) l 1 != 0) (by assumption) (by assumption))
  |exact .mk [] [] _ R R R R R R R
  |exact .mk [] [] _ R R R R R R (Qo (sC n (Qcl (x:=QcX (bn,(un,ui,ur,uq,um),bc,bw) (tm,(r,op,at_,nmi),ds,bd,ba,bdt) l n) (by assumption))).2)
  |exact .mk [] [] _ R R R R R R (Qo (sD n (Qav (x:=QcX (bn,(un,ui,ur,uq,um),bc,bw) (tm,(r,op,at_,nmi),ds,bd,ba,bdt) l n) (by assumption))).2)
abbrev RgT:Ty:=.pair (.int .i64) (.pair (.int .i64) (.int .i64))
abbrev Rg:=Int × Int × Int
def stepM (l:List Rg) (n:Nat) (v:Int):List Rg :=
 if 0 < l.length∧(l.getD (l.length-1) (dflt RgT)).2.2=v then l.set (l.length-1) ((l.getD (l.length-1) (dflt RgT)).1,(n:Int)+1,(l.getD (l.length-1) (dflt RgT)).2.2) else l++[((n:Int),(n:Int)+1,v)]
def QEx (f:Int→Int):Nat→List Rg
 |0=>[]
 |k+1=>stepM (QEx f k) k (f k)
structure QuE (f:Int→Int) (l:List Rg) (n:Nat):Prop where
 len:l.length≤n
 pos:0 < n→0 < l.length
 last:0 < l.length→(l.getD (l.length-1) (dflt RgT)).2.1=n
 zero:0 < l.length→(l.getD 0 (dflt RgT)).1=0
 each:∀ i < l.length,0≤(l.getD i (dflt RgT)).1∧(l.getD i (dflt RgT)).1 < (l.getD i (dflt RgT)).2.1∧(l.getD i (dflt RgT)).2.1≤n∧∀ a:Int,(l.getD i (dflt RgT)).1≤a→a < (l.getD i (dflt RgT)).2.1→f a=(l.getD i (dflt RgT)).2.2
 next:∀ i,i+1 < l.length→(l.getD (i+1) (dflt RgT)).1=(l.getD i (dflt RgT)).2.1∧(l.getD (i+1) (dflt RgT)).2.2≠(l.getD i (dflt RgT)).2.2
theorem Qdj {α:Type} {l:List α} {i:Nat} {x d:α} (h:i < l.length):(l.set i x).getD i d=x:=by
 rw [List.getD_eq_getElem?_getD,List.getElem?_set_self h];rfl
theorem Qcc {α:Type} {l:List α} {i j:Nat} {x d:α} (h:i≠j):(l.set i x).getD j d=l.getD j d:=by
 rw [List.getD_eq_getElem?_getD,List.getElem?_set_ne h,List.getD_eq_getElem?_getD]
theorem QcZ {α:Type} {l:List α} {i:Nat} {x d:α} (h:i < l.length):(l++[x]).getD i d=l.getD i d:=by
 rw [List.getD_eq_getElem?_getD,List.getElem?_append_left h,List.getD_eq_getElem?_getD]
theorem Qd8 {α:Type} {l:List α} {i:Nat} {x d:α} (h:i=l.length):(l++[x]).getD i d=x:=by
 subst h;rw [List.getD_eq_getElem?_getD,List.getElem?_append_right (Nat.le_refl _),Nat.sub_self];rfl
theorem QuE.step {f:Int→Int} {l:List Rg} {n:Nat} (h:QuE f l n):QuE f (stepM l n (f n)) (n+1):=by
 unfold stepM
 split
 ·rename_i hc
  obtain ⟨hp,hv⟩:=hc
  have hlt:l.length-1 < l.length:=by omega
  have hla:=h.last hp
  refine ⟨by rw [List.length_set];have:=h.len;omega,fun _=>by rw [List.length_set];omega,fun _=>?_,fun _=>?_,fun i hi=>?_,fun i hi=>?_⟩
  ·rw [List.length_set,Qdj hlt];simp
  ·by_cases e:l.length-1=0
   ·rw [e,Qdj (by omega)];exact h.zero hp
   ·rw [Qcc (by omega)];exact h.zero hp
  ·rw [List.length_set] at hi
   by_cases e:l.length-1=i
   ·subst e
    obtain ⟨a1,a2,a3,a4⟩:=h.each _ hi
    rw [Qdj hi]
    refine ⟨a1,by show _ < (n:Int)+1;omega,by show (n:Int)+1≤_;omega,fun a b1 b2=>?_⟩
    have b2:a < (n:Int)+1:=b2
    by_cases e2:a=n
    ·subst e2;exact hv.symm
    ·exact a4 a b1 (by omega)
   ·obtain ⟨a1,a2,a3,a4⟩:=h.each _ hi
    rw [Qcc e]
    exact ⟨a1,a2,by omega,a4⟩
  ·rw [List.length_set] at hi
   obtain ⟨a1,a2⟩:=h.next i hi
   by_cases e:l.length-1=i+1
   ·rw [e,Qdj (by omega),Qcc (by omega)]
    exact ⟨a1,a2⟩
   ·rw [Qcc e,Qcc (by omega)]
    exact ⟨a1,a2⟩
 ·rename_i hc
  refine ⟨by rw [List.length_append];have:=h.len;simp;omega,fun _=>by simp,fun _=>?_,fun _=>?_,fun i hi=>?_,fun i hi=>?_⟩
  ·rw [Qd8 (by simp)];simp
  ·by_cases e:l.length=0
   ·have:n=0:=by
     rcases Nat.eq_zero_or_pos n with e2 |e2
     ·exact e2
     ·have:=h.pos e2;omega
    rw [Qd8 e.symm,this];rfl
   ·rw [QcZ (by omega)];exact h.zero (by omega)
  ·rw [List.length_append,List.length_singleton] at hi
   by_cases e:i=l.length
   ·rw [Qd8 e]
    refine ⟨by show (0:Int)≤n;omega,by show (n:Int) < n+1;omega,by show (n:Int)+1≤_;omega,fun a b1 b2=>?_⟩
    have b1:(n:Int)≤a:=b1
    have b2:a < (n:Int)+1:=b2
    have:a=n:=by omega
    rw [this]
   ·obtain ⟨a1,a2,a3,a4⟩:=h.each i (by omega)
    rw [QcZ (by omega)]
    exact ⟨a1,a2,by omega,a4⟩
  ·rw [List.length_append,List.length_singleton] at hi
   by_cases e:i+1=l.length
   ·rw [Qd8 e,QcZ (by omega)]
    have hla:=h.last (by omega)
    have e3:l.length-1=i:=by omega
    rw [e3] at hla hc
    refine ⟨hla.symm,fun h2=>hc ⟨by omega,h2.symm⟩⟩
   ·rw [QcZ (by omega),QcZ (by omega)]
    exact h.next i (by omega)
theorem map_set {f:Int→Int} {l:List Rg} {k:Nat} {v:Int} (hl:l=QEx f k) (hv:f k=v) (hw:IntKind.i64.wrap ((l.length:Int)-1)=(l.length:Int)-1) (hj:IntKind.i64.wrap ((k:Int)+1)=(k:Int)+1) (h0:IntKind.i64.wrap ((l.length:Int)-1)≥0)
 (hc:(l.getD (IntKind.i64.wrap ((l.length:Int)-1)).toNat (dflt RgT)).2.2=v) :
 l.set (IntKind.i64.wrap ((l.length:Int)-1)).toNat ((l.getD (IntKind.i64.wrap ((l.length:Int)-1)).toNat (dflt RgT)).1,IntKind.i64.wrap ((k:Int)+1),(l.getD (IntKind.i64.wrap ((l.length:Int)-1)).toNat (dflt RgT)).2.2)=QEx f (k+1):=by
 rw [hw] at *
 have e:((l.length:Int)-1).toNat=l.length-1:=by omega
 rw [e] at hc ⊢
 show _=stepM (QEx f k) k (f k)
 rw [← hl,hj,hv]
 unfold stepM
 rw [if_pos ⟨by omega,hc⟩]
theorem QyY {x:Int} (h:(Lit.int .i64 x).wf=true):i64 x:=by
 have:=h
 simp [Lit.wf] at this
 exact this
theorem QGi {c:Cv} (h:Wf gC.t c):cP c:=⟨QyY h.2.2.1,QyY h.2.2.2.1,Nat.le_trans (Nat.le_of_eq (Nat.mul_one _).symm) h.2.2.2.2.1⟩
theorem QyZ {b:Bd} (h:Wf gBd.t b):bdP b :=
 ⟨⟨h.2.2.1.1,h.2.2.2.1⟩,fun c hc=>⟨QGi (h.2.2.1.2 c hc),(h.2.2.1.2 c hc).1⟩⟩
theorem QBo {b:Bd} (h:Wf gBd.t b):QBy b:=⟨QyZ h,fun w hw=>(h.2.2.2.2 w hw).1⟩
theorem QBp {l:List Inp} (h:Wf (.sl QL) l):l.length≤4611686018427387904:=Nat.le_trans (Nat.le_mul_of_pos_right _ (by decide)) (Nat.le_trans h.1 (by decide))
theorem Qxz {b:Bd} (hb:bd gBd.t b≤1048576) {c:Cv} (hc:c ∈ b.2.2.1):List.length c.2.2.2.2≤1048576:=by
 have h1:=QmV (bd Qh) hc
 have e:bd gBd.t b=bd .str b.1+(bd QAe b.2.1+(((List.map (bd Qh) b.2.2.1).sum+1)+bd (.sl Qx) b.2.2.2)):=rfl
 have e2:bd Qh c=bd .str c.1+(1+(1+(1+((List.map (bd (.int .u8)) c.2.2.2.2).sum+1)))):=rfl
 rw [Qfj] at e2
 omega
theorem Quz (d:Dv):bd Qp d=(List.length d.1+1)+(List.length d.2+1):=by
 have e:bd Qp d=((List.map (bd (.int .i64)) d.1).sum+1)+((List.map (bd (.int .u8)) d.2).sum+1):=rfl
 rw [Qfj,Qfj] at e;exact e
theorem QuA {α:Type} (m:α→Nat) (hm:∀ x,2≤m x):∀ l:List α,2*l.length≤(l.map m).sum
 | []=>Nat.le_refl _
 |y :: r=>by
   rw [List.map_cons,List.sum_cons,List.length_cons]
   have:=QuA m hm r
   have:=hm y
   omega
theorem QlL {b:Bd} {m:Mach} (h1:Wf gBd.t b) (h2:Wf QhT m) (hb:bd gBd.t b≤1048576) (hm:bd QhT m≤1048576) (hl:b.2.2.1.length=m.2.2.1.length):MOk 1118576 b m∧m.2.2.1.length*(1118576+200)≤1099511627776:=by
 have e:bd QhT m=1+(bd QAf m.2.1+(((List.map (bd Qp) m.2.2.1).sum+1)+(1+(1+1)))):=rfl
 have h3:=QyZ h1
 refine ⟨⟨by decide,by decide,fun c hc=>⟨(h3.2 c hc).1,?_⟩,fun d hd=>⟨QxQ (h2.2.2.1.2 d hd).2.2,?_⟩,hl⟩,?_⟩
 ·have:=Qxz hb hc;omega
 ·have h4:=QmV (bd Qp) hd
  rw [Quz] at h4
  omega
 ·have h5:=QuA (bd Qp) (fun d=>by rw [Quz];omega) m.2.2.1
  omega
theorem QuB {b:Bd} {m:Mach} {l:List Inp} (h1:Wf gBd.t b) (h2:Wf QhT m) (h3:Wf (.sl QL) l) (hb:bd gBd.t b≤1048576) (hm:bd QhT m≤1048576):QeG b m l:=by
 have gm:Qci m∧Qj0 m:=⟨Qxt h2 hm,fun d hd=>QxQ (h2.2.2.1.2 d hd).2.2⟩
 have ht:Qck b.2.1 m.2.1:=Qxu h2.2.1.1.1 h1.2.1
 refine ⟨⟨QBo h1,QBp h3⟩,QlJ gm.1,ht,gm,fun hl=>⟨_,(QlL h1 h2 hb hm hl).1⟩,fun hl k=>?_⟩
 obtain ⟨k1,k2⟩:=QlL h1 h2 hb hm hl
 exact (QlI k1 k2 ht (QBl h1.2.1) gm k).1
theorem QBq (xs:Args QBn.gs) (hw:WfA QBn.gs xs) (hb:bdA QBn.gs xs≤1048576):QeG xs.1 xs.2.1 xs.2.2.1:=by
 obtain ⟨b,m,l,n,u⟩:=xs
 have e:bdA QBn.gs (b,m,l,n,u)=bd gBd.t b+(bd QhT m+(bd (.sl QL) l+(1+0))):=rfl
 exact QuB hw.1 hw.2.1 hw.2.2.1 (by omega) (by omega)
end Go.Proofs.YtofgbclopbmlcaaGreat

