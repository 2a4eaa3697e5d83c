/- Part 42 of the proof. Conditions: none. -/
import Derived.Test.YtofgbclopbmlcaaGreatG38
import Derived.Test.YtofgbclopbmlcaaGreatG41
namespace Go.Proofs.YtofgbclopbmlcaaGreat
open Go.IntKind (i64)
set_option maxHeartbeats 8000000
open Go.Fw
set_option linter.unusedVariables false
set_option linter.unusedSimpArgs false
set_option linter.constructorNameAsVariable false
set_option maxRecDepth 100000
def QwM(cs:List Cv)(ds:List Dv)(k:Nat):List Int:=List.zipWith Qal (cs.take k) (ds.take k)++List.replicate (cs.length-k) 0
theorem Qzv{cs:List Cv}{ds:List Dv}{k:Nat}(h:cs.length=ds.length)(hk:k≤cs.length):(QwM cs ds k).length=cs.length:=by
 unfold QwM;rw[List.length_append,List.length_zipWith,List.length_replicate,List.length_take,List.length_take];omega
theorem QGC{cs:List Cv}{ds:List Dv}:QwM cs ds 0=List.replicate cs.length 0:=by unfold QwM;simp
theorem Qzw{cs:List Cv}{ds:List Dv}{k:Nat}(h:cs.length=ds.length)(hk:cs.length≤k):QwM cs ds k=List.zipWith Qal cs ds:=by
 unfold QwM;rw[List.take_of_length_le hk,List.take_of_length_le (by omega),show cs.length-k=0 by omega];simp
theorem Qwa{cs:List Cv}{ds:List Dv}{k:Nat}(h:cs.length=ds.length)(hk:k<cs.length):(QwM cs ds k).set k (Qal (cs.getD k (dflt Qe)) (ds.getD k (dflt Qj)))=QwM cs ds (k+1):=by
 unfold QwM;have hl:(List.zipWith Qal (cs.take k) (ds.take k)).length=k:=by rw[List.length_zipWith,List.length_take,List.length_take];omega
 rw[←Qmr h hk,List.set_append,if_neg (by omega),hl,Nat.sub_self,show cs.length-k=(cs.length-(k+1))+1 by omega,List.replicate_succ,List.set_cons_zero,List.append_assoc];rfl
def gvC(t:Int)(x:Inp)(c:Cv)(d:Dv):Dv:=if x.1=t∧Qm x.2.1 QaP=false then Qe5 x c d else d
theorem QA8{cs:List Cv}{ds:List Dv}(h:cs.length=ds.length):List.zipWith (fun(_:Cv) (d:Dv)=>d) cs ds=ds:=by
 apply List.ext_getElem?;intro i;rw[List.getElem?_zipWith];by_cases hi:i<ds.length
 ·rw[List.getElem?_eq_getElem hi,List.getElem?_eq_getElem (show i<cs.length by omega)]
 ·rw[List.getElem?_eq_none (show ds.length≤i by omega),List.getElem?_eq_none (show cs.length≤i by omega)]
theorem Qzx{cs:List Cv}{t:Int}{d0:List Dv}{n0:Bool}{x:Inp}(h:cs.length=d0.length):QdA cs t (d0,n0) x=(List.zipWith (gvC t x) cs d0,n0||(decide (x.1=t)&&Qm x.2.1 QaP)):=by
 unfold QdA;by_cases h1:x.1=t
 ·cases h2:Qm x.2.1 QaP with
  |true =>
   have e:gvC t x=fun _ d=>d:=by funext c d;exact if_neg (fun hh=>by rw[h2] at hh;cases hh.2)
   rw[if_neg (fun hh=>hh h1),if_pos rfl,e,QA8 h,decide_eq_true h1];simp
  |false =>
   have e:gvC t x=Qe5 x:=by funext c d;exact if_pos ⟨h1,h2⟩
   rw[if_neg (fun hh=>hh h1),if_neg (by decide),e,decide_eq_true h1];simp
 ·have e:gvC t x=fun _ d=>d:=by funext c d;exact if_neg (fun hh=>h1 hh.1)
  rw[if_pos h1,e,QA8 h,decide_eq_false h1];simp
theorem Qis{tm:Int}{c:Cpu}{A:Kor×Bsv}{R:Option Blk}{i i':Int}{d d':List Dv}{N:List Int}(h:i=i')(h2:d=d') :
 [some (Blk.var [iv .i64 tm,.run .i64 9 (QI c A.1 i).1,iv .i64 (QI c A.1 i).2.1,iv .i64 (QI c A.1 i).2.2.1,bv (QI c A.1 i).2.2.2,.own 2,iv .i64 A.2.1,iv .i64 A.2.2.1,iv .i64 i]),R,some (.arr Qj d),some (.arr (.int .i64) N),some (.arr Qw [])] =
 [some (Blk.var [iv .i64 tm,.run .i64 9 (QI c A.1 i').1,iv .i64 (QI c A.1 i').2.1,iv .i64 (QI c A.1 i').2.2.1,bv (QI c A.1 i').2.2.2,.own 2,iv .i64 A.2.1,iv .i64 A.2.2.1,iv .i64 i']),R,some (.arr Qj d'),some (.arr (.int .i64) N),some (.arr Qw [])]:=by
 subst h h2;rfl
theorem QfW(tm:Int):i64.wrap (Qae tm (-1) 1099511627775+1)=Qcc tm:=by
 have h:Qae tm (-1) 1099511627775=max (-1) (min tm 1099511627775):=by
  unfold Qae
  repeat' split
  all_goals omega
 rw[h,w64 (by omega) (by omega)];rfl
theorem Qwb{b:Bd}{a:Int}(h:bP b a)(hf:0≤Qn b a):i64.wrap (a-(b.2.2.1.getD (Qn b a).toNat (dflt Qe)).2.2.1)=atF b a:=by
 have ho:Qgn a (b.2.2.1.getD (Qn b a).toNat (dflt Qe))=true:=QyF (dflt Qe) hf;unfold Qgn at ho;simp only[Bool.and_eq_true,decide_eq_true_eq] at ho;have h1:=(QcU hf).1;have hcc:=h.2.2 _ (QG (dflt Qe) (show(Qn b a).toNat<b.2.2.1.length by omega));have h3:=ho.1;have h4:=ho.2.2;have h5:=hcc.2.2;have h6:=h.2.1.2;have h7:=hcc.1.1;have e:atF b a=a-(b.2.2.1.getD (Qn b a).toNat (dflt Qe)).2.2.1:=if_pos hf;rw[e];exact w64 (by omega) (by omega)
def QJh(b:Bd)(m:Mach)(l:List Inp):Prop:=(QwL m.2.2.1∧l.length≤4611686018427387904∧bdP b)∧Qa0 b.2.1 m.2.1∧∃L,MOk L b m
def QGD:PSpec:=⟨[gBd,gM,gIn],fun(b,m,l,_)=>(some (QJh b m l),.tup [QeI (Qo b m l).1 0,.c (.own 1)],[.arr Qj (Qo b m l).1.2.2.1,.arr Qw (Qo b m l).2])⟩
theorem Qjw:G0 23 QGD.spec:=by
 have hP:S0 _:=Qa Qp0 (Qa Quv (Qa Quu (Qa QnH (Qa Qrs (Qa QyS (Qa QuU (Qa Qrq (Qa Qrr (Qa QnL (Qa Qrm (Qa QgX (Qb (T:=tree)))))))))))));have hT:=tabs hP Qc;refine QGD.gd hT hP Tryz.func23 fun(b:Bd) (m:Mach) (l:List Inp) hq=>?_
 obtain⟨⟨h1,hl,hbd⟩,htl,L,hM⟩:QJh b m l:=hq _ rfl;clear hq;obtain⟨bn,⟨un,ui,ur,uq,um⟩,bc,bw⟩:=b;obtain⟨tm,⟨r,op,at_,nmi⟩,ds,bd,ba,bdt⟩:=m;have hbd:bdP (bn,(un,ui,ur,uq,um),bc,bw):=hbd;have htl:Qa0 (un,ui,ur,uq,um) (r,op,at_,nmi):=htl;have hbl:bc.length*64≤140737488351232:=hbd.1.1;have h2:bc.length=ds.length:=hM.l;have h3:Qrz L bc:=hM.c;have h4:Qg7 L ds:=hM.d;have hL:=hM.L2;have hL1:=hM.L1;have hc:∀c∈bc,cP c:=fun c h=>(h3 c h).1
 have hd:∀d∈ds,dP d:=fun d h=>(h4 d h).dP hL
 repeat' first|(apply Ea;conv=>whnf)|apply Eb|apply Ec<;>intro _|apply Ed<;>intro _|apply Ee<;>intro _|apply Ef hT hP
 all_goals(try dsimp only[Qf] at *)
 ·exact h1.1
 ·refine⟨rfl,by omega,?_,by omega⟩;show(bc.length:Int)*8≤281474976710656;omega
 refine QH hT hP (A:=List Int) bc.length (fun i w=>St.mk (E2 ((.cell (.ro Qw l))::(.cell (.ptr 0 0))::(.cell (.ptr 1 0))::E1 ((.cell (.ptr 2 0))::E1 ((.cell (.own 4))::E20 (E3 ((.cell (.ro Qe bc))::(I bc.length)::(I i)::E40 (E40 (E40 (E40 (E40 (E40 (E10 (E2 [])))))))))))))
  [some (.var [.imm (.string bn),.imm (.string un),.ro QaA ui,.ro Qs ur,.ro Qs uq,.ro Qs um,.ro Qe bc,.ro Qr bw]),
   some (.var [iv .i64 tm,.run .i64 9 r,iv .i64 op,iv .i64 at_,bv nmi,.own 3,iv .i64 bd,iv .i64 ba,iv .i64 bdt]),
   some (.var [.imm (.int .i64 0),.run .i64 9 (List.replicate 9 0),.imm (.int .i64 0),.imm (.int .i64 0),.imm (.bool false),.imm (.slice none 0 0),.imm (.int .i64 0),.imm (.int .i64 0),.imm (.int .i64 0)]),some (.arr Qj ds),some (.arr (.int .i64) w)])
  (fun k w=>w=QwM bc ds k) (List.replicate bc.length 0) (Le.mk [] [0,1,2,3,4] R R ?_ ?_) QGC.symm fun k w hk hi=>?_
 ·exact rfl
 ·repeat' constructor
 have hwl:w.length=bc.length:=by rw[hi];exact Qzv h2 hk
 repeat' first|(apply Ea;conv=>whnf)|apply Eb|apply Ec<;>intro _|apply Ed<;>intro _|apply Ee<;>intro _|apply Ef hT hP
 all_goals(try dsimp only[Qf] at *)
 ·have g:(k:Int)<(bc.length:Int):=by assumption
  show 0≤(k:Int)∧(k:Int)<(bc.length:Int);omega
 ·have g:(k:Int)<(bc.length:Int):=by assumption
  show 0≤(k:Int)∧(k:Int)<(ds.length:Int);omega
 ·have g:(k:Int)<(bc.length:Int):=by assumption
  show k<ds.length;omega
 ·have g:(k:Int)<(bc.length:Int):=by assumption
  exact⟨hc _ (QG (dflt Qe) (show k<bc.length by omega)),hd _ (QG (dflt Qj) (show k<ds.length by omega))⟩
 ·have g:(k:Int)<(bc.length:Int):=by assumption
  show 0≤(k:Int)∧(k:Int)<(w.length:Int);omega
 ·have g:(k:Int)<(bc.length:Int):=by assumption
  show k<w.length;omega
 ·rename_i g;have g:(k:Int)<(bc.length:Int):=g;apply Ex _ [] [0,1,2,3,4]
  ·repeat' constructor
  ·omega
  ·exact QL (by omega)
  have e:=Qwa h2 (show k<bc.length by omega);rw[←hi] at e;exact e
 rename_i gg;have gg:¬(k:Int)<(bc.length:Int):=gg;have hw:w=List.zipWith Qal bc ds:=by rw[hi,Qzw h2 (by omega)]
 subst hw;clear hi hk gg hwl;generalize hN0:List.zipWith Qal bc ds=N0 at *;have hNl:N0.length=bc.length:=by rw[←hN0];exact Qp7 h2
 refine QH hT hP (A:=List Dv×Bool) l.length (fun i s=>St.mk (E3 ((.cell (.ptr 0 0))::(.cell (.ptr 1 0))::E1 ((.cell (.ptr 2 0))::E1 ((.cell (.own 4))::E40 (E1 ((.cell (.ro Qw l))::(I l.length)::(I i)::E40 (E40 (E40 (E40 (E40 (E20 (E10 (E3 (E1 []))))))))))))))
  [some (.var [.imm (.string bn),.imm (.string un),.ro QaA ui,.ro Qs ur,.ro Qs uq,.ro Qs um,.ro Qe bc,.ro Qr bw]),
   some (.var [iv .i64 tm,.run .i64 9 r,iv .i64 op,iv .i64 at_,bv s.2,.own 3,iv .i64 bd,iv .i64 ba,iv .i64 bdt]),
   some (.var [.imm (.int .i64 0),.run .i64 9 (List.replicate 9 0),.imm (.int .i64 0),.imm (.int .i64 0),.imm (.bool false),.imm (.slice none 0 0),.imm (.int .i64 0),.imm (.int .i64 0),.imm (.int .i64 0)]),some (.arr Qj s.1),some (.arr (.int .i64) N0)])
  (fun k s=>s=QkI bc tm l (ds,nmi) k) (ds,nmi) (Le.mk [] [0,1,2,3,4] R R ?_ ?_) rfl fun k s hk hi=>?_
 ·exact rfl
 ·repeat' constructor
 obtain⟨d0,n0⟩:=s
 have hok:Qg7 L d0∧d0.length=ds.length:=by
  have:=Qeu (t:=tm) h3 (l.take k) (s:=(ds,nmi)) h4 h2;have e:QJ bc tm (l.take k) (ds,nmi)=(d0,n0):=hi.symm;rw[e] at this;exact this
 have hst:k<l.length→QkI bc tm l (ds,nmi) (k+1)=QdA bc tm (d0,n0) (l.getD k (dflt Qw)):=fun h=>by rw[Qjn h (dflt Qw),←hi]
 repeat' first|(apply Ea;conv=>whnf)|apply Eb|apply Ec<;>intro _|apply Ed<;>intro _|apply Ee<;>intro _|apply Ef hT hP
 all_goals(try dsimp only[Qf] at *)
 ·have g:(k:Int)<(l.length:Int):=by assumption
  show 0≤(k:Int)∧(k:Int)<(l.length:Int);omega
 ·rename_i g;have g:(k:Int)<(l.length:Int):=g;have hst:=hst (by omega);have hdl:bc.length=d0.length:=by rw[hok.2];exact h2
  rw[Qzx hdl] at hst;have hkk:l.getD (k:Int).toNat (dflt Qw)=l.getD k (dflt Qw):=rfl;rw[hkk];clear hkk;generalize l.getD k (dflt Qw)=x at *;obtain⟨xa,xc,xn⟩:=x
  refine QH hT hP (A:=List Dv) bc.length (fun j d=>St.mk (E3 ((.cell (.ptr 0 0))::(.cell (.ptr 1 0))::E1 ((.cell (.ptr 2 0))::E1 ((.cell (.own 4))::E3 ((.cell (.ptr 5 0))::E20 (E10 (E5 (E2 ((.cell (.ro Qw l))::(I l.length)::(I k)::E3 (E1 ((.cell (.ro Qe bc))::(I bc.length)::(I j)::E40 (E40 (E40 (E40 (E40 (E20 (E5 (E2 []))))))))))))))))))
   [some (.var [.imm (.string bn),.imm (.string un),.ro QaA ui,.ro Qs ur,.ro Qs uq,.ro Qs um,.ro Qe bc,.ro Qr bw]),
    some (.var [iv .i64 tm,.run .i64 9 r,iv .i64 op,iv .i64 at_,bv n0,.own 3,iv .i64 bd,iv .i64 ba,iv .i64 bdt]),
    some (.var [.imm (.int .i64 0),.run .i64 9 (List.replicate 9 0),.imm (.int .i64 0),.imm (.int .i64 0),.imm (.bool false),.imm (.slice none 0 0),.imm (.int .i64 0),.imm (.int .i64 0),.imm (.int .i64 0)]),some (.arr Qj d),some (.arr (.int .i64) N0),some (.var [iv .i64 xa,.imm (.string xc),iv .i64 xn])])
   (fun j d=>d=QdI (gvC tm (xa,xc,xn)) bc d0 j) d0 (Le.mk [] [0,1,2,3,4,5] R R ?_ ?_) (QfQ _ _ _).symm fun j d hj hi2=>?_
  ·exact rfl
  ·repeat' constructor
  have hdl2:d.length=d0.length:=by rw[hi2];exact QbQ hdl hj
  have hdg:j<bc.length→d.getD j (dflt Qj)=d0.getD j (dflt Qj):=fun h=>by rw[hi2];exact QbR hdl h _
  have hds:j<bc.length→d.set j (gvC tm (xa,xc,xn) (bc.getD j (dflt Qe)) (d0.getD j (dflt Qj)))=QdI (gvC tm (xa,xc,xn)) bc d0 (j+1):=fun h=>by rw[hi2];exact Qbk hdl h _ _
  repeat' first|(apply Ea;conv=>whnf)|apply Eb|apply Ec<;>intro _|apply Ed<;>intro _|apply Ee<;>intro _|apply Ef hT hP
  all_goals(try dsimp only[Qf] at *)
  ·have g:(j:Int)<(bc.length:Int):=by assumption
   show 0≤(j:Int)∧(j:Int)<(bc.length:Int);omega
  ·have g:(j:Int)<(bc.length:Int):=by assumption
   show 0≤(j:Int)∧(j:Int)<(d.length:Int);omega
  ·have g:(j:Int)<(bc.length:Int):=by assumption
   show j<d.length;omega
  ·have g:(j:Int)<(bc.length:Int):=by assumption
   refine⟨hc _ (QG (dflt Qe) (show j<bc.length by omega)),?_⟩;show dP (d.getD j (dflt Qj));rw[hdg (by omega)];exact(hok.1.get j).dP hL
  ·have g:(j:Int)<(bc.length:Int):=by assumption
   show 0≤(j:Int)∧(j:Int)<(d.length:Int);omega
  ·have g:(j:Int)<(bc.length:Int):=by assumption
   show j<d.length;omega
  ·rename_i g a1 a2 a3;have g:(j:Int)<(bc.length:Int):=g;have a1:xa=tm:=a1;have a2:Qm xc (bc.getD j (dflt Qe)).1=true:=a2;have a3:(!Qm xc QaP)=true:=a3
   have e:gvC tm (xa,xc,xn) (bc.getD j (dflt Qe)) (d0.getD j (dflt Qj))=Qmc (bc.getD j (dflt Qe)) (d.getD j (dflt Qj)) xn:=by
    unfold gvC Qe5;rw[if_pos ⟨a1,by simpa using a3⟩,if_pos (QC.2 (QC.1 a2).symm),hdg (by omega)]
   apply Ex _ [] [0,1,2,3,4,5]
   ·repeat' constructor
   ·omega
   ·exact QL (by omega)
   exact(congrArg (fun z=>d.set j z) e.symm).trans (hds (by omega))
  ·rename_i g a1 a2 a3;have g:(j:Int)<(bc.length:Int):=g;have a3:(!Qm xc QaP)=false:=a3
   have e:gvC tm (xa,xc,xn) (bc.getD j (dflt Qe)) (d0.getD j (dflt Qj))=d0.getD j (dflt Qj):=by
    unfold gvC;rw[if_neg (fun hh=>by rw[hh.2] at a3;cases a3)]
   apply Ex d [] [0,1,2,3,4,5]
   ·repeat' constructor
   ·omega
   ·exact QL (by omega)
   exact hi2.trans (QkH hdl (by omega) e)
  ·rename_i g a1 a2;have g:(j:Int)<(bc.length:Int):=g;have a2:Qm xc (bc.getD j (dflt Qe)).1=false:=a2
   have e:gvC tm (xa,xc,xn) (bc.getD j (dflt Qe)) (d0.getD j (dflt Qj))=d0.getD j (dflt Qj):=by
    unfold gvC;split
    ·unfold Qe5;rw[if_neg (fun hh=>by rw[QC.2 (QC.1 hh).symm] at a2;cases a2)]
    ·rfl
   apply Ex d [] [0,1,2,3,4,5]
   ·repeat' constructor
   ·omega
   ·exact QL (by omega)
   exact hi2.trans (QkH hdl (by omega) e)
  ·rename_i g a1;have g:(j:Int)<(bc.length:Int):=g;have a1:¬xa=tm:=a1
   have e:gvC tm (xa,xc,xn) (bc.getD j (dflt Qe)) (d0.getD j (dflt Qj))=d0.getD j (dflt Qj):=by
    unfold gvC;rw[if_neg (fun hh=>a1 hh.1)]
   apply Ex d [] [0,1,2,3,4,5]
   ·repeat' constructor
   ·omega
   ·exact QL (by omega)
   exact hi2.trans (QkH hdl (by omega) e)
  ·rename_i g a1;have g:¬(j:Int)<(bc.length:Int):=g;have e:d=List.zipWith (gvC tm (xa,xc,xn)) bc d0:=by rw[hi2,QbC hdl (by omega)]
   apply Ex (d,_) [] [0,1,2,3,4]
   ·repeat' constructor
   ·omega
   ·exact QL (by omega)
   rw[hst,←e];have a1:n0=true:=a1;rw[a1];rfl
  ·rename_i g a1 a2;have g:¬(j:Int)<(bc.length:Int):=g;have e:d=List.zipWith (gvC tm (xa,xc,xn)) bc d0:=by rw[hi2,QbC hdl (by omega)]
   apply Ex (d,_) [] [0,1,2,3,4]
   ·repeat' constructor
   ·omega
   ·exact QL (by omega)
   rw[hst,←e];have a1:n0=false:=a1;have a2:xa=tm:=a2;rw[a1,decide_eq_true a2];rfl
  ·rename_i g a1 a2;have g:¬(j:Int)<(bc.length:Int):=g;have e:d=List.zipWith (gvC tm (xa,xc,xn)) bc d0:=by rw[hi2,QbC hdl (by omega)]
   apply Ex (d,_) [] [0,1,2,3,4]
   ·repeat' constructor
   ·omega
   ·exact QL (by omega)
   rw[hst,←e];have a1:n0=false:=a1;have a2:¬xa=tm:=a2;rw[a1,decide_eq_false a2];rfl
 ·exact hbd
 rename_i gg;have gg:¬(k:Int)<(l.length:Int):=gg;have eG:QJ bc tm l (ds,nmi)=(d0,n0):=by rw[hi,Qmp (by omega)]
 have hhl:=Qde bw bc;have hhl:(Qbj bw bc).length=bc.length:=hhl;have hlE:Qz (bn,(un,ui,ur,uq,um),bc,bw) d0=Qbw (Qbj bw bc) bc d0:=rfl;have hdl:bc.length=d0.length:=by rw[hok.2];exact h2
 have hdd:∀d∈d0,dP d:=fun d h=>(hok.1 d h).dP hL
 clear hi hk gg hst;generalize Qbj bw bc=hs at *;rw[hhl]
 refine QH hT hP (A:=Bool) bc.length (fun i o=>St.mk (E3 ((.cell (.ptr 0 0))::(.cell (.ptr 1 0))::E1 ((.cell (.ptr 2 0))::E1 ((.cell (.own 4))::E5 (E1 ((.cell (bv o))::E40 (E40 (E10 (E5 (E3 ((.cell (.own 5))::(I bc.length)::(I i)::E40 (E40 (E40 (E40 (E10 [])))))))))))))))
  [some (.var [.imm (.string bn),.imm (.string un),.ro QaA ui,.ro Qs ur,.ro Qs uq,.ro Qs um,.ro Qe bc,.ro Qr bw]),
   some (.var [iv .i64 tm,.run .i64 9 r,iv .i64 op,iv .i64 at_,bv n0,.own 3,iv .i64 bd,iv .i64 ba,iv .i64 bdt]),
   some (.var [.imm (.int .i64 0),.run .i64 9 (List.replicate 9 0),.imm (.int .i64 0),.imm (.int .i64 0),.imm (.bool false),.imm (.slice none 0 0),.imm (.int .i64 0),.imm (.int .i64 0),.imm (.int .i64 0)]),some (.arr Qj d0),some (.arr (.int .i64) N0),some (.arr .bool hs)])
  (fun k o=>(o||Qbw (hs.drop k) (bc.drop k) (d0.drop k))=Qbw hs bc d0) false (Le.mk [] [0,1,2,3,4,5] R R ?_ ?_) rfl fun q o hq hj=>?_
 ·exact rfl
 ·repeat' constructor
 have hst:=fun h=>Qcw (ds:=d0) (k:=q) hhl h
 have hLine:¬(q:Int)<(bc.length:Int)→o=Qz (bn,(un,ui,ur,uq,um),bc,bw) d0:=fun h=>by
  rw[hlE,←hj,Qjq hhl (by omega),Bool.or_false]
 have hAd:=Qim (un,ui,ur,uq,um) (r,op,at_,n0) o;have hbP:bP (bn,(un,ui,ur,uq,um),bc,bw) (Qk (un,ui,ur,uq,um) (r,op,at_,n0) o).2.2.1:=⟨by show bc.length≤_;omega,⟨by omega,by omega⟩,fun c h=>⟨(hc c h).1,(hc c h).2.1⟩⟩
 have hfin:0≤Qn (bn,(un,ui,ur,uq,um),bc,bw) (Qk (un,ui,ur,uq,um) (r,op,at_,n0) o).2.2.1→Qn (bn,(un,ui,ur,uq,um),bc,bw) (Qk (un,ui,ur,uq,um) (r,op,at_,n0) o).2.2.1<(bc.length:Int):=fun h=>(QcU h).1
 repeat' first|(apply Ea;conv=>whnf)|apply Eb|apply Ec<;>intro _|apply Ed<;>intro _|apply Ee<;>intro _|apply Ef hT hP
 all_goals(try dsimp only[Qf] at *)
 ·have g:(q:Int)<(bc.length:Int):=by assumption
  show 0≤(q:Int)∧(q:Int)<(hs.length:Int);omega
 ·have g:(q:Int)<(bc.length:Int):=by assumption
  show q<hs.length;omega
 ·rename_i g a1;have g:(q:Int)<(bc.length:Int):=g;have a1:o=true:=a1;apply Ex _ [] [0,1,2,3,4,5]
  ·repeat' constructor
  ·omega
  ·exact QL (by omega)
  rw[←hj,a1];rfl
 ·have g:(q:Int)<(bc.length:Int):=by assumption
  show 0≤(q:Int)∧(q:Int)<(bc.length:Int);omega
 ·have g:(q:Int)<(bc.length:Int):=by assumption
  show 0≤(q:Int)∧(q:Int)<(d0.length:Int);omega
 ·have g:(q:Int)<(bc.length:Int):=by assumption
  show q<d0.length;omega
 ·have g:(q:Int)<(bc.length:Int):=by assumption
  exact⟨hc _ (QG (dflt Qe) (show q<bc.length by omega)),hdd _ (QG (dflt Qj) (show q<d0.length by omega))⟩
 ·rename_i g a1 a2;have g:(q:Int)<(bc.length:Int):=g;have a1:o=false:=a1;have a2:hs.getD q (dflt .bool)=true:=a2;have hst:=hst (by omega);rw[decide_eq_true (show q<d0.length by omega),show hs.getD q false=true from a2] at hst;apply Ex _ [] [0,1,2,3,4,5]
  ·repeat' constructor
  ·omega
  ·exact QL (by omega)
  rw[←hj,hst,a1];rfl
 ·rename_i g a1 a2;have g:(q:Int)<(bc.length:Int):=g;have a1:o=false:=a1;have a2:hs.getD q (dflt .bool)=false:=a2;have hst:=hst (by omega);rw[show hs.getD q false=false from a2] at hst;apply Ex _ [] [0,1,2,3,4,5]
  ·repeat' constructor
  ·omega
  ·exact QL (by omega)
  rw[←hj,hst,a1];simp
 ·exact QnM (QfS htl n0)
 ·exact hbP
 all_goals first
  |(show 0≤Qn (bn,(un,ui,ur,uq,um),bc,bw) (Qk (un,ui,ur,uq,um) (r,op,at_,n0) o).2.2.1∧Qn (bn,(un,ui,ur,uq,um),bc,bw) (Qk (un,ui,ur,uq,um) (r,op,at_,n0) o).2.2.1<(bc.length:Int);have h0:0≤Qn (bn,(un,ui,ur,uq,um),bc,bw) (Qk (un,ui,ur,uq,um) (r,op,at_,n0) o).2.2.1:=by assumption
    exact⟨h0,hfin h0⟩)
  |(show 0≤Qn (bn,(un,ui,ur,uq,um),bc,bw) (Qk (un,ui,ur,uq,um) (r,op,at_,n0) o).2.2.1∧Qn (bn,(un,ui,ur,uq,um),bc,bw) (Qk (un,ui,ur,uq,um) (r,op,at_,n0) o).2.2.1<(d0.length:Int);have h0:0≤Qn (bn,(un,ui,ur,uq,um),bc,bw) (Qk (un,ui,ur,uq,um) (r,op,at_,n0) o).2.2.1:=by assumption
    have:=hfin h0;omega)
  |(show(Qn (bn,(un,ui,ur,uq,um),bc,bw) (Qk (un,ui,ur,uq,um) (r,op,at_,n0) o).2.2.1).toNat<d0.length;have h0:0≤Qn (bn,(un,ui,ur,uq,um),bc,bw) (Qk (un,ui,ur,uq,um) (r,op,at_,n0) o).2.2.1:=by assumption
    have:=hfin h0;omega)
  |(have h0:0≤Qn (bn,(un,ui,ur,uq,um),bc,bw) (Qk (un,ui,ur,uq,um) (r,op,at_,n0) o).2.2.1:=by assumption
    have:=hfin h0
    exact⟨hc _ (QG (dflt Qe) (show(Qn (bn,(un,ui,ur,uq,um),bc,bw) (Qk (un,ui,ur,uq,um) (r,op,at_,n0) o).2.2.1).toNat<bc.length by omega)),hdd _ (QG (dflt Qj) (show(Qn (bn,(un,ui,ur,uq,um),bc,bw) (Qk (un,ui,ur,uq,um) (r,op,at_,n0) o).2.2.1).toNat<d0.length by omega))⟩)
  |exact Qii (QfS htl _) _
  |skip
 ·rename_i gx gb hf;have gx:¬(q:Int)<(bc.length:Int):=gx;have ho:=hLine gx;have hac:=QdB (b:=(bn,(un,ui,ur,uq,um),bc,bw)) (ds:=d0) (x:=(Qk (un,ui,ur,uq,um) (r,op,at_,n0) o).2) hL1 h3 hok.1
  have hI:loadI (bc.getD (Qn (bn,(un,ui,ur,uq,um),bc,bw) (Qk (un,ui,ur,uq,um) (r,op,at_,n0) o).2.2.1).toNat (dflt Qe)) (d0.getD (Qn (bn,(un,ui,ur,uq,um),bc,bw) (Qk (un,ui,ur,uq,um) (r,op,at_,n0) o).2.2.1).toNat (dflt Qj)) (i64.wrap ((Qk (un,ui,ur,uq,um) (r,op,at_,n0) o).2.2.1-(bc.getD (Qn (bn,(un,ui,ur,uq,um),bc,bw) (Qk (un,ui,ur,uq,um) (r,op,at_,n0) o).2.2.1).toNat (dflt Qe)).2.2.1))=QbY (bn,(un,ui,ur,uq,um),bc,bw) d0 (Qk (un,ui,ur,uq,um) (r,op,at_,n0) o).2:=by
   rw[Qwb (b:=(bn,(un,ui,ur,uq,um),bc,bw)) hbP hf];exact(Qvy (b:=(bn,(un,ui,ur,uq,um),bc,bw)) (x:=(Qk (un,ui,ur,uq,um) (r,op,at_,n0) o).2) hf gb).symm
  have hD:d0.set (Qn (bn,(un,ui,ur,uq,um),bc,bw) (Qk (un,ui,ur,uq,um) (r,op,at_,n0) o).2.2.1).toNat (loadD (bc.getD (Qn (bn,(un,ui,ur,uq,um),bc,bw) (Qk (un,ui,ur,uq,um) (r,op,at_,n0) o).2.2.1).toNat (dflt Qe)) (d0.getD (Qn (bn,(un,ui,ur,uq,um),bc,bw) (Qk (un,ui,ur,uq,um) (r,op,at_,n0) o).2.2.1).toNat (dflt Qj)) (i64.wrap ((Qk (un,ui,ur,uq,um) (r,op,at_,n0) o).2.2.1-(bc.getD (Qn (bn,(un,ui,ur,uq,um),bc,bw) (Qk (un,ui,ur,uq,um) (r,op,at_,n0) o).2.2.1).toNat (dflt Qe)).2.2.1)))=QaV (bn,(un,ui,ur,uq,um),bc,bw) d0 (Qk (un,ui,ur,uq,um) (r,op,at_,n0) o).2:=by
   rw[Qwb (b:=(bn,(un,ui,ur,uq,um),bc,bw)) hbP hf];exact(QvA (b:=(bn,(un,ui,ur,uq,um),bc,bw)) (x:=(Qk (un,ui,ur,uq,um) (r,op,at_,n0) o).2) hf gb).symm
  have hcy:Qo (bn,(un,ui,ur,uq,um),bc,bw) (tm,(r,op,at_,nmi),ds,bd,ba,bdt) l=((Qcc tm,QI (un,ui,ur,uq,um) (Qk (un,ui,ur,uq,um) (r,op,at_,n0) o).1 (QbY (bn,(un,ui,ur,uq,um),bc,bw) d0 (Qk (un,ui,ur,uq,um) (r,op,at_,n0) o).2),List.zipWith Qh bc (QaV (bn,(un,ui,ur,uq,um),bc,bw) d0 (Qk (un,ui,ur,uq,um) (r,op,at_,n0) o).2),(Qk (un,ui,ur,uq,um) (r,op,at_,n0) o).2.1,(Qk (un,ui,ur,uq,um) (r,op,at_,n0) o).2.2.1,QbY (bn,(un,ui,ur,uq,um),bc,bw) d0 (Qk (un,ui,ur,uq,um) (r,op,at_,n0) o).2),Qfe tm bc (List.zipWith Qh bc (QaV (bn,(un,ui,ur,uq,um),bc,bw) d0 (Qk (un,ui,ur,uq,um) (r,op,at_,n0) o).2)) N0):=by
   subst ho;unfold Qo;simp only[eG];rw[←hN0]
  have hDl:(QaV (bn,(un,ui,ur,uq,um),bc,bw) d0 (Qk (un,ui,ur,uq,um) (r,op,at_,n0) o).2).length=bc.length:=by rw[hac.2];exact hdl.symm
  have hDd:∀d∈QaV (bn,(un,ui,ur,uq,um),bc,bw) d0 (Qk (un,ui,ur,uq,um) (r,op,at_,n0) o).2,dP d:=fun d h=>(hac.1 d h).dP hL
  have hTd:∀d∈List.zipWith Qh bc (QaV (bn,(un,ui,ur,uq,um),bc,bw) d0 (Qk (un,ui,ur,uq,um) (r,op,at_,n0) o).2),dP d:=fun d h=>(QbK h3 hac.1 d h).dP hL
  generalize hD1:QaV (bn,(un,ui,ur,uq,um),bc,bw) d0 (Qk (un,ui,ur,uq,um) (r,op,at_,n0) o).2=D0 at *;generalize hI1:QbY (bn,(un,ui,ur,uq,um),bc,bw) d0 (Qk (un,ui,ur,uq,um) (r,op,at_,n0) o).2=I0 at *
  refine QH hT hP (A:=List Dv×List Inp) bc.length (fun i s=>St.mk (E3 (E1 ((.cell (.ptr 0 0))::E1 ((.cell (.ptr 1 0))::E1 ((.cell (.own 3))::E10 ((.cell (.own 4))::E40 (E40 (E40 (E40 (E40 (E10 (E5 (E3 (E1 ((.cell (.ro Qe bc))::(I bc.length)::(I i)::E40 (E5 []))))))))))))))))
   [some (.var [iv .i64 tm,.run .i64 9 (QI (un,ui,ur,uq,um) (Qk (un,ui,ur,uq,um) (r,op,at_,n0) o).1 I0).1,iv .i64 (QI (un,ui,ur,uq,um) (Qk (un,ui,ur,uq,um) (r,op,at_,n0) o).1 I0).2.1,iv .i64 (QI (un,ui,ur,uq,um) (Qk (un,ui,ur,uq,um) (r,op,at_,n0) o).1 I0).2.2.1,bv (QI (un,ui,ur,uq,um) (Qk (un,ui,ur,uq,um) (r,op,at_,n0) o).1 I0).2.2.2,.own 2,iv .i64 (Qk (un,ui,ur,uq,um) (r,op,at_,n0) o).2.1,iv .i64 (Qk (un,ui,ur,uq,um) (r,op,at_,n0) o).2.2.1,iv .i64 I0]),
    some (.var [.imm (.int .i64 0),.run .i64 9 (List.replicate 9 0),.imm (.int .i64 0),.imm (.int .i64 0),.imm (.bool false),.imm (.slice none 0 0),.imm (.int .i64 0),.imm (.int .i64 0),.imm (.int .i64 0)]),some (.arr Qj s.1),some (.arr (.int .i64) N0),some (.arr Qw s.2)])
   (fun k s=>s.1=QdI Qh bc D0 k∧s.2=newK tm bc (List.zipWith Qh bc D0) N0 k) (D0,[]) (.trans (Le.nil 19 Qw rfl) (Le.mk [] [1,2,3,4,8] R R ?_ ?_)) ⟨(QfQ _ _ _).symm,rfl⟩ fun u s hu hi=>?_
  ·exact Qis hI hD
  ·repeat' constructor
  generalize hT0:QI (un,ui,ur,uq,um) (Qk (un,ui,ur,uq,um) (r,op,at_,n0) o).1 I0=T0 at *;generalize(Qk (un,ui,ur,uq,um) (r,op,at_,n0) o)=A0 at *;obtain⟨d,v⟩:=s;obtain⟨hi1,hi2⟩:=hi;have hi1:d=QdI Qh bc D0 u:=hi1;have hi2:v=newK tm bc (List.zipWith Qh bc D0) N0 u:=hi2;have hdl1:d.length=bc.length:=by rw[hi1,QbQ hDl.symm hu];exact hDl
  have hdg:u<bc.length→d.getD u (dflt Qj)=D0.getD u (dflt Qj):=fun h=>by rw[hi1];exact QbR hDl.symm h _
  have hds:u<bc.length→d.set u (Qh (bc.getD u (dflt Qe)) (D0.getD u (dflt Qj)))=QdI Qh bc D0 (u+1):=fun h=>by rw[hi1];exact Qbk hDl.symm h _ _
  have hzl:bc.length=(List.zipWith Qh bc D0).length:=by rw[List.length_zipWith];omega
  have hzg:u<bc.length→(List.zipWith Qh bc D0).getD u (dflt Qj)=Qh (bc.getD u (dflt Qe)) (D0.getD u (dflt Qj)):=fun h=>Qgs hDl.symm h
  have hns:u<bc.length→newK tm bc (List.zipWith Qh bc D0) N0 (u+1)=v++(if Qal (bc.getD u (dflt Qe)) (Qh (bc.getD u (dflt Qe)) (D0.getD u (dflt Qj)))=N0.getD u 0 then [] else [(tm,(bc.getD u (dflt Qe)).1,Qal (bc.getD u (dflt Qe)) (Qh (bc.getD u (dflt Qe)) (D0.getD u (dflt Qj))))]):=fun h=>by
   rw[Qdg hzl hNl.symm h (dflt Qe) (dflt Qj),hzg h,hi2]
  have hol:v.length≤bc.length:=by
   rw[hi2];refine Nat.le_trans (Qbr _ _ _ _) ?_;rw[List.length_take];omega
  repeat' first|(apply Ea;conv=>whnf)|apply Eb|apply Ec<;>intro _|apply Ed<;>intro _|apply Ee<;>intro _|apply Ef hT hP
  all_goals(try dsimp only[Qf] at *)
  ·have g:(u:Int)<(bc.length:Int):=by assumption
   show 0≤(u:Int)∧(u:Int)<(bc.length:Int);omega
  ·have g:(u:Int)<(bc.length:Int):=by assumption
   show 0≤(u:Int)∧(u:Int)<(d.length:Int);omega
  ·have g:(u:Int)<(bc.length:Int):=by assumption
   show u<d.length;omega
  ·have g:(u:Int)<(bc.length:Int):=by assumption
   refine⟨hc _ (QG (dflt Qe) (show u<bc.length by omega)),?_⟩;show dP (d.getD u (dflt Qj));rw[hdg (by omega)];exact hDd _ (QG (dflt Qj) (show u<D0.length by omega))
  ·have g:(u:Int)<(bc.length:Int):=by assumption
   show 0≤(u:Int)∧(u:Int)<(d.length:Int);omega
  ·have g:(u:Int)<(bc.length:Int):=by assumption
   show u<d.length;omega
  ·have g:(u:Int)<(bc.length:Int):=by assumption
   show 0≤(u:Int)∧(u:Int)<(List.length (d.set _ _):Int);rw[List.length_set];omega
  ·have g:(u:Int)<(bc.length:Int):=by assumption
   show u<List.length (d.set _ _);rw[List.length_set];omega
  ·have g:(u:Int)<(bc.length:Int):=by assumption
   refine⟨hc _ (QG (dflt Qe) (show u<bc.length by omega)),?_⟩;show dP ((d.set u (Qh (bc.getD u (dflt Qe)) (d.getD u (dflt Qj)))).getD u (dflt Qj));rw[Qan (show u<d.length by omega),hdg (by omega),←hzg (by omega)];exact hTd _ (QG (dflt Qj) (show u<(List.zipWith Qh bc D0).length by omega))
  ·have g:(u:Int)<(bc.length:Int):=by assumption
   show 0≤(u:Int)∧(u:Int)<(N0.length:Int);omega
  ·have g:(u:Int)<(bc.length:Int):=by assumption
   show u<N0.length;omega
  ·have g:(u:Int)<(bc.length:Int):=by assumption
   show(v.length+1)*32≤140737488355328;omega
  ·rename_i g g2;have g:(u:Int)<(bc.length:Int):=g;have e1:(d.set u (Qh (bc.getD u (dflt Qe)) (d.getD u (dflt Qj)))).getD u (dflt Qj)=Qh (bc.getD u (dflt Qe)) (D0.getD u (dflt Qj)):=by rw[Qan (show u<d.length by omega),hdg (by omega)]
   have g2:(Qal (bc.getD u (dflt Qe)) ((d.set u (Qh (bc.getD u (dflt Qe)) (d.getD u (dflt Qj)))).getD u (dflt Qj)) != N0.getD u 0)=true:=g2;rw[e1] at g2;have g3:¬Qal (bc.getD u (dflt Qe)) (Qh (bc.getD u (dflt Qe)) (D0.getD u (dflt Qj)))=N0.getD u 0:=by simpa using g2
   have hns:=hns (by omega);rw[if_neg g3] at hns;have hds:=hds (by omega);rw[←hdg (by omega)] at hds;apply Ex (_,_) [] [0,1,2,3,9]
   ·repeat' constructor
   ·omega
   ·exact QL (by omega)
   refine⟨hds,?_⟩;rw[hns,←e1]
   try rfl
  ·rename_i g g2;have g:(u:Int)<(bc.length:Int):=g;have e1:(d.set u (Qh (bc.getD u (dflt Qe)) (d.getD u (dflt Qj)))).getD u (dflt Qj)=Qh (bc.getD u (dflt Qe)) (D0.getD u (dflt Qj)):=by rw[Qan (show u<d.length by omega),hdg (by omega)]
   have g2:(Qal (bc.getD u (dflt Qe)) ((d.set u (Qh (bc.getD u (dflt Qe)) (d.getD u (dflt Qj)))).getD u (dflt Qj)) != N0.getD u 0)=false:=g2;rw[e1] at g2;have g3:Qal (bc.getD u (dflt Qe)) (Qh (bc.getD u (dflt Qe)) (D0.getD u (dflt Qj)))=N0.getD u 0:=by simpa using g2
   have hns:=hns (by omega);rw[if_pos g3,List.append_nil] at hns;have hds:=hds (by omega);rw[←hdg (by omega)] at hds;apply Ex (_,v) [] [0,1,2,3,4]
   ·repeat' constructor
   ·omega
   ·exact QL (by omega)
   exact⟨hds,hns.symm⟩
  ·rename_i g;have g:¬(u:Int)<(bc.length:Int):=g;have e1:d=List.zipWith Qh bc D0:=by rw[hi1,QbC hDl.symm (by omega)]
   have e2:v=Qfe tm bc (List.zipWith Qh bc D0) N0:=by
    rw[hi2];unfold newK;rw[List.take_of_length_le (by omega),List.take_of_length_le (by omega),List.take_of_length_le (by omega)]
   have e3:i64.wrap (Qae tm (-1) 1099511627775+1)=Qcc tm:=QfW tm;have e:((i64.wrap (Qae tm (-1) 1099511627775+1),T0,d,A0.2.1,A0.2.2.1,I0),v)=Qo (bn,(un,ui,ur,uq,um),bc,bw) (tm,(r,op,at_,nmi),ds,bd,ba,bdt) l:=by rw[hcy,e1,e2,e3]
   exact .mk [] [2,4] _ R R R R R (congrArg (fun z:Mach×List Inp=>[some (Blk.arr Qj z.1.2.2.1),some (Blk.arr Qw z.2)]) e) (congrArg (fun z:Mach×List Inp=>AV.tup [QeI z.1 0,.c (.own 1)]) e)
 ·rename_i gx gb hf;have gx:¬(q:Int)<(bc.length:Int):=gx;have ho:=hLine gx;have hac:=QdB (b:=(bn,(un,ui,ur,uq,um),bc,bw)) (ds:=d0) (x:=(Qk (un,ui,ur,uq,um) (r,op,at_,n0) o).2) hL1 h3 hok.1
  have hI:255=QbY (bn,(un,ui,ur,uq,um),bc,bw) d0 (Qk (un,ui,ur,uq,um) (r,op,at_,n0) o).2:=by
   exact(Qvz (b:=(bn,(un,ui,ur,uq,um),bc,bw)) (x:=(Qk (un,ui,ur,uq,um) (r,op,at_,n0) o).2) hf gb).symm
  have hD:d0=QaV (bn,(un,ui,ur,uq,um),bc,bw) d0 (Qk (un,ui,ur,uq,um) (r,op,at_,n0) o).2:=by
   exact(Qjo (b:=(bn,(un,ui,ur,uq,um),bc,bw)) (x:=(Qk (un,ui,ur,uq,um) (r,op,at_,n0) o).2) hf).symm
  have hcy:Qo (bn,(un,ui,ur,uq,um),bc,bw) (tm,(r,op,at_,nmi),ds,bd,ba,bdt) l=((Qcc tm,QI (un,ui,ur,uq,um) (Qk (un,ui,ur,uq,um) (r,op,at_,n0) o).1 (QbY (bn,(un,ui,ur,uq,um),bc,bw) d0 (Qk (un,ui,ur,uq,um) (r,op,at_,n0) o).2),List.zipWith Qh bc (QaV (bn,(un,ui,ur,uq,um),bc,bw) d0 (Qk (un,ui,ur,uq,um) (r,op,at_,n0) o).2),(Qk (un,ui,ur,uq,um) (r,op,at_,n0) o).2.1,(Qk (un,ui,ur,uq,um) (r,op,at_,n0) o).2.2.1,QbY (bn,(un,ui,ur,uq,um),bc,bw) d0 (Qk (un,ui,ur,uq,um) (r,op,at_,n0) o).2),Qfe tm bc (List.zipWith Qh bc (QaV (bn,(un,ui,ur,uq,um),bc,bw) d0 (Qk (un,ui,ur,uq,um) (r,op,at_,n0) o).2)) N0):=by
   subst ho;unfold Qo;simp only[eG];rw[←hN0]
  have hDl:(QaV (bn,(un,ui,ur,uq,um),bc,bw) d0 (Qk (un,ui,ur,uq,um) (r,op,at_,n0) o).2).length=bc.length:=by rw[hac.2];exact hdl.symm
  have hDd:∀d∈QaV (bn,(un,ui,ur,uq,um),bc,bw) d0 (Qk (un,ui,ur,uq,um) (r,op,at_,n0) o).2,dP d:=fun d h=>(hac.1 d h).dP hL
  have hTd:∀d∈List.zipWith Qh bc (QaV (bn,(un,ui,ur,uq,um),bc,bw) d0 (Qk (un,ui,ur,uq,um) (r,op,at_,n0) o).2),dP d:=fun d h=>(QbK h3 hac.1 d h).dP hL
  generalize hD1:QaV (bn,(un,ui,ur,uq,um),bc,bw) d0 (Qk (un,ui,ur,uq,um) (r,op,at_,n0) o).2=D0 at *;generalize hI1:QbY (bn,(un,ui,ur,uq,um),bc,bw) d0 (Qk (un,ui,ur,uq,um) (r,op,at_,n0) o).2=I0 at *
  refine QH hT hP (A:=List Dv×List Inp) bc.length (fun i s=>St.mk (E3 (E1 ((.cell (.ptr 0 0))::E1 ((.cell (.ptr 1 0))::E1 ((.cell (.own 3))::E10 ((.cell (.own 4))::E40 (E40 (E40 (E40 (E40 (E10 (E5 (E3 (E1 ((.cell (.ro Qe bc))::(I bc.length)::(I i)::E40 (E5 []))))))))))))))))
   [some (.var [iv .i64 tm,.run .i64 9 (QI (un,ui,ur,uq,um) (Qk (un,ui,ur,uq,um) (r,op,at_,n0) o).1 I0).1,iv .i64 (QI (un,ui,ur,uq,um) (Qk (un,ui,ur,uq,um) (r,op,at_,n0) o).1 I0).2.1,iv .i64 (QI (un,ui,ur,uq,um) (Qk (un,ui,ur,uq,um) (r,op,at_,n0) o).1 I0).2.2.1,bv (QI (un,ui,ur,uq,um) (Qk (un,ui,ur,uq,um) (r,op,at_,n0) o).1 I0).2.2.2,.own 2,iv .i64 (Qk (un,ui,ur,uq,um) (r,op,at_,n0) o).2.1,iv .i64 (Qk (un,ui,ur,uq,um) (r,op,at_,n0) o).2.2.1,iv .i64 I0]),
    some (.var [.imm (.int .i64 0),.run .i64 9 (List.replicate 9 0),.imm (.int .i64 0),.imm (.int .i64 0),.imm (.bool false),.imm (.slice none 0 0),.imm (.int .i64 0),.imm (.int .i64 0),.imm (.int .i64 0)]),some (.arr Qj s.1),some (.arr (.int .i64) N0),some (.arr Qw s.2)])
   (fun k s=>s.1=QdI Qh bc D0 k∧s.2=newK tm bc (List.zipWith Qh bc D0) N0 k) (D0,[]) (.trans (Le.nil 19 Qw rfl) (Le.mk [] [1,2,3,4,6] R R ?_ ?_)) ⟨(QfQ _ _ _).symm,rfl⟩ fun u s hu hi=>?_
  ·exact Qis hI hD
  ·repeat' constructor
  generalize hT0:QI (un,ui,ur,uq,um) (Qk (un,ui,ur,uq,um) (r,op,at_,n0) o).1 I0=T0 at *;generalize(Qk (un,ui,ur,uq,um) (r,op,at_,n0) o)=A0 at *;obtain⟨d,v⟩:=s;obtain⟨hi1,hi2⟩:=hi;have hi1:d=QdI Qh bc D0 u:=hi1;have hi2:v=newK tm bc (List.zipWith Qh bc D0) N0 u:=hi2;have hdl1:d.length=bc.length:=by rw[hi1,QbQ hDl.symm hu];exact hDl
  have hdg:u<bc.length→d.getD u (dflt Qj)=D0.getD u (dflt Qj):=fun h=>by rw[hi1];exact QbR hDl.symm h _
  have hds:u<bc.length→d.set u (Qh (bc.getD u (dflt Qe)) (D0.getD u (dflt Qj)))=QdI Qh bc D0 (u+1):=fun h=>by rw[hi1];exact Qbk hDl.symm h _ _
  have hzl:bc.length=(List.zipWith Qh bc D0).length:=by rw[List.length_zipWith];omega
  have hzg:u<bc.length→(List.zipWith Qh bc D0).getD u (dflt Qj)=Qh (bc.getD u (dflt Qe)) (D0.getD u (dflt Qj)):=fun h=>Qgs hDl.symm h
  have hns:u<bc.length→newK tm bc (List.zipWith Qh bc D0) N0 (u+1)=v++(if Qal (bc.getD u (dflt Qe)) (Qh (bc.getD u (dflt Qe)) (D0.getD u (dflt Qj)))=N0.getD u 0 then [] else [(tm,(bc.getD u (dflt Qe)).1,Qal (bc.getD u (dflt Qe)) (Qh (bc.getD u (dflt Qe)) (D0.getD u (dflt Qj))))]):=fun h=>by
   rw[Qdg hzl hNl.symm h (dflt Qe) (dflt Qj),hzg h,hi2]
  have hol:v.length≤bc.length:=by
   rw[hi2];refine Nat.le_trans (Qbr _ _ _ _) ?_;rw[List.length_take];omega
  repeat' first|(apply Ea;conv=>whnf)|apply Eb|apply Ec<;>intro _|apply Ed<;>intro _|apply Ee<;>intro _|apply Ef hT hP
  all_goals(try dsimp only[Qf] at *)
  ·have g:(u:Int)<(bc.length:Int):=by assumption
   show 0≤(u:Int)∧(u:Int)<(bc.length:Int);omega
  ·have g:(u:Int)<(bc.length:Int):=by assumption
   show 0≤(u:Int)∧(u:Int)<(d.length:Int);omega
  ·have g:(u:Int)<(bc.length:Int):=by assumption
   show u<d.length;omega
  ·have g:(u:Int)<(bc.length:Int):=by assumption
   refine⟨hc _ (QG (dflt Qe) (show u<bc.length by omega)),?_⟩;show dP (d.getD u (dflt Qj));rw[hdg (by omega)];exact hDd _ (QG (dflt Qj) (show u<D0.length by omega))
  ·have g:(u:Int)<(bc.length:Int):=by assumption
   show 0≤(u:Int)∧(u:Int)<(d.length:Int);omega
  ·have g:(u:Int)<(bc.length:Int):=by assumption
   show u<d.length;omega
  ·have g:(u:Int)<(bc.length:Int):=by assumption
   show 0≤(u:Int)∧(u:Int)<(List.length (d.set _ _):Int);rw[List.length_set];omega
  ·have g:(u:Int)<(bc.length:Int):=by assumption
   show u<List.length (d.set _ _);rw[List.length_set];omega
  ·have g:(u:Int)<(bc.length:Int):=by assumption
   refine⟨hc _ (QG (dflt Qe) (show u<bc.length by omega)),?_⟩;show dP ((d.set u (Qh (bc.getD u (dflt Qe)) (d.getD u (dflt Qj)))).getD u (dflt Qj));rw[Qan (show u<d.length by omega),hdg (by omega),←hzg (by omega)];exact hTd _ (QG (dflt Qj) (show u<(List.zipWith Qh bc D0).length by omega))
  ·have g:(u:Int)<(bc.length:Int):=by assumption
   show 0≤(u:Int)∧(u:Int)<(N0.length:Int);omega
  ·have g:(u:Int)<(bc.length:Int):=by assumption
   show u<N0.length;omega
  ·have g:(u:Int)<(bc.length:Int):=by assumption
   show(v.length+1)*32≤140737488355328;omega
  ·rename_i g g2;have g:(u:Int)<(bc.length:Int):=g;have e1:(d.set u (Qh (bc.getD u (dflt Qe)) (d.getD u (dflt Qj)))).getD u (dflt Qj)=Qh (bc.getD u (dflt Qe)) (D0.getD u (dflt Qj)):=by rw[Qan (show u<d.length by omega),hdg (by omega)]
   have g2:(Qal (bc.getD u (dflt Qe)) ((d.set u (Qh (bc.getD u (dflt Qe)) (d.getD u (dflt Qj)))).getD u (dflt Qj)) != N0.getD u 0)=true:=g2;rw[e1] at g2;have g3:¬Qal (bc.getD u (dflt Qe)) (Qh (bc.getD u (dflt Qe)) (D0.getD u (dflt Qj)))=N0.getD u 0:=by simpa using g2
   have hns:=hns (by omega);rw[if_neg g3] at hns;have hds:=hds (by omega);rw[←hdg (by omega)] at hds;apply Ex (_,_) [] [0,1,2,3,9]
   ·repeat' constructor
   ·omega
   ·exact QL (by omega)
   refine⟨hds,?_⟩;rw[hns,←e1]
   try rfl
  ·rename_i g g2;have g:(u:Int)<(bc.length:Int):=g;have e1:(d.set u (Qh (bc.getD u (dflt Qe)) (d.getD u (dflt Qj)))).getD u (dflt Qj)=Qh (bc.getD u (dflt Qe)) (D0.getD u (dflt Qj)):=by rw[Qan (show u<d.length by omega),hdg (by omega)]
   have g2:(Qal (bc.getD u (dflt Qe)) ((d.set u (Qh (bc.getD u (dflt Qe)) (d.getD u (dflt Qj)))).getD u (dflt Qj)) != N0.getD u 0)=false:=g2;rw[e1] at g2;have g3:Qal (bc.getD u (dflt Qe)) (Qh (bc.getD u (dflt Qe)) (D0.getD u (dflt Qj)))=N0.getD u 0:=by simpa using g2
   have hns:=hns (by omega);rw[if_pos g3,List.append_nil] at hns;have hds:=hds (by omega);rw[←hdg (by omega)] at hds;apply Ex (_,v) [] [0,1,2,3,4]
   ·repeat' constructor
   ·omega
   ·exact QL (by omega)
   exact⟨hds,hns.symm⟩
  ·rename_i g;have g:¬(u:Int)<(bc.length:Int):=g;have e1:d=List.zipWith Qh bc D0:=by rw[hi1,QbC hDl.symm (by omega)]
   have e2:v=Qfe tm bc (List.zipWith Qh bc D0) N0:=by
    rw[hi2];unfold newK;rw[List.take_of_length_le (by omega),List.take_of_length_le (by omega),List.take_of_length_le (by omega)]
   have e3:i64.wrap (Qae tm (-1) 1099511627775+1)=Qcc tm:=QfW tm;have e:((i64.wrap (Qae tm (-1) 1099511627775+1),T0,d,A0.2.1,A0.2.2.1,I0),v)=Qo (bn,(un,ui,ur,uq,um),bc,bw) (tm,(r,op,at_,nmi),ds,bd,ba,bdt) l:=by rw[hcy,e1,e2,e3]
   exact .mk [] [2,4] _ R R R R R (congrArg (fun z:Mach×List Inp=>[some (Blk.arr Qj z.1.2.2.1),some (Blk.arr Qw z.2)]) e) (congrArg (fun z:Mach×List Inp=>AV.tup [QeI z.1 0,.c (.own 1)]) e)
 ·rename_i gx gb gc hf;have gx:¬(q:Int)<(bc.length:Int):=gx;have ho:=hLine gx;have hac:=QdB (b:=(bn,(un,ui,ur,uq,um),bc,bw)) (ds:=d0) (x:=(Qk (un,ui,ur,uq,um) (r,op,at_,n0) o).2) hL1 h3 hok.1
  have hI:(Qk (un,ui,ur,uq,um) (r,op,at_,n0) o).2.2.2=QbY (bn,(un,ui,ur,uq,um),bc,bw) d0 (Qk (un,ui,ur,uq,um) (r,op,at_,n0) o).2:=by
   exact(QfR (b:=(bn,(un,ui,ur,uq,um),bc,bw)) (x:=(Qk (un,ui,ur,uq,um) (r,op,at_,n0) o).2) gb).symm
  have hD:d0.set (Qn (bn,(un,ui,ur,uq,um),bc,bw) (Qk (un,ui,ur,uq,um) (r,op,at_,n0) o).2.2.1).toNat (Qbb (bc.getD (Qn (bn,(un,ui,ur,uq,um),bc,bw) (Qk (un,ui,ur,uq,um) (r,op,at_,n0) o).2.2.1).toNat (dflt Qe)) (d0.getD (Qn (bn,(un,ui,ur,uq,um),bc,bw) (Qk (un,ui,ur,uq,um) (r,op,at_,n0) o).2.2.1).toNat (dflt Qj)) (i64.wrap ((Qk (un,ui,ur,uq,um) (r,op,at_,n0) o).2.2.1-(bc.getD (Qn (bn,(un,ui,ur,uq,um),bc,bw) (Qk (un,ui,ur,uq,um) (r,op,at_,n0) o).2.2.1).toNat (dflt Qe)).2.2.1)) (Qk (un,ui,ur,uq,um) (r,op,at_,n0) o).2.2.2)=QaV (bn,(un,ui,ur,uq,um),bc,bw) d0 (Qk (un,ui,ur,uq,um) (r,op,at_,n0) o).2:=by
   rw[Qwb (b:=(bn,(un,ui,ur,uq,um),bc,bw)) hbP hf];exact(QvB (b:=(bn,(un,ui,ur,uq,um),bc,bw)) (x:=(Qk (un,ui,ur,uq,um) (r,op,at_,n0) o).2) hf gc).symm
  have hcy:Qo (bn,(un,ui,ur,uq,um),bc,bw) (tm,(r,op,at_,nmi),ds,bd,ba,bdt) l=((Qcc tm,QI (un,ui,ur,uq,um) (Qk (un,ui,ur,uq,um) (r,op,at_,n0) o).1 (QbY (bn,(un,ui,ur,uq,um),bc,bw) d0 (Qk (un,ui,ur,uq,um) (r,op,at_,n0) o).2),List.zipWith Qh bc (QaV (bn,(un,ui,ur,uq,um),bc,bw) d0 (Qk (un,ui,ur,uq,um) (r,op,at_,n0) o).2),(Qk (un,ui,ur,uq,um) (r,op,at_,n0) o).2.1,(Qk (un,ui,ur,uq,um) (r,op,at_,n0) o).2.2.1,QbY (bn,(un,ui,ur,uq,um),bc,bw) d0 (Qk (un,ui,ur,uq,um) (r,op,at_,n0) o).2),Qfe tm bc (List.zipWith Qh bc (QaV (bn,(un,ui,ur,uq,um),bc,bw) d0 (Qk (un,ui,ur,uq,um) (r,op,at_,n0) o).2)) N0):=by
   subst ho;unfold Qo;simp only[eG];rw[←hN0]
  have hDl:(QaV (bn,(un,ui,ur,uq,um),bc,bw) d0 (Qk (un,ui,ur,uq,um) (r,op,at_,n0) o).2).length=bc.length:=by rw[hac.2];exact hdl.symm
  have hDd:∀d∈QaV (bn,(un,ui,ur,uq,um),bc,bw) d0 (Qk (un,ui,ur,uq,um) (r,op,at_,n0) o).2,dP d:=fun d h=>(hac.1 d h).dP hL
  have hTd:∀d∈List.zipWith Qh bc (QaV (bn,(un,ui,ur,uq,um),bc,bw) d0 (Qk (un,ui,ur,uq,um) (r,op,at_,n0) o).2),dP d:=fun d h=>(QbK h3 hac.1 d h).dP hL
  generalize hD1:QaV (bn,(un,ui,ur,uq,um),bc,bw) d0 (Qk (un,ui,ur,uq,um) (r,op,at_,n0) o).2=D0 at *;generalize hI1:QbY (bn,(un,ui,ur,uq,um),bc,bw) d0 (Qk (un,ui,ur,uq,um) (r,op,at_,n0) o).2=I0 at *
  refine QH hT hP (A:=List Dv×List Inp) bc.length (fun i s=>St.mk (E3 (E1 ((.cell (.ptr 0 0))::E1 ((.cell (.ptr 1 0))::E1 ((.cell (.own 3))::E10 ((.cell (.own 4))::E40 (E40 (E40 (E40 (E40 (E10 (E5 (E3 (E1 ((.cell (.ro Qe bc))::(I bc.length)::(I i)::E40 (E5 []))))))))))))))))
   [some (.var [iv .i64 tm,.run .i64 9 (QI (un,ui,ur,uq,um) (Qk (un,ui,ur,uq,um) (r,op,at_,n0) o).1 I0).1,iv .i64 (QI (un,ui,ur,uq,um) (Qk (un,ui,ur,uq,um) (r,op,at_,n0) o).1 I0).2.1,iv .i64 (QI (un,ui,ur,uq,um) (Qk (un,ui,ur,uq,um) (r,op,at_,n0) o).1 I0).2.2.1,bv (QI (un,ui,ur,uq,um) (Qk (un,ui,ur,uq,um) (r,op,at_,n0) o).1 I0).2.2.2,.own 2,iv .i64 (Qk (un,ui,ur,uq,um) (r,op,at_,n0) o).2.1,iv .i64 (Qk (un,ui,ur,uq,um) (r,op,at_,n0) o).2.2.1,iv .i64 I0]),
    some (.var [.imm (.int .i64 0),.run .i64 9 (List.replicate 9 0),.imm (.int .i64 0),.imm (.int .i64 0),.imm (.bool false),.imm (.slice none 0 0),.imm (.int .i64 0),.imm (.int .i64 0),.imm (.int .i64 0)]),some (.arr Qj s.1),some (.arr (.int .i64) N0),some (.arr Qw s.2)])
   (fun k s=>s.1=QdI Qh bc D0 k∧s.2=newK tm bc (List.zipWith Qh bc D0) N0 k) (D0,[]) (.trans (Le.nil 19 Qw rfl) (Le.mk [] [1,2,3,4,8] R R ?_ ?_)) ⟨(QfQ _ _ _).symm,rfl⟩ fun u s hu hi=>?_
  ·exact Qis hI hD
  ·repeat' constructor
  generalize hT0:QI (un,ui,ur,uq,um) (Qk (un,ui,ur,uq,um) (r,op,at_,n0) o).1 I0=T0 at *;generalize(Qk (un,ui,ur,uq,um) (r,op,at_,n0) o)=A0 at *;obtain⟨d,v⟩:=s;obtain⟨hi1,hi2⟩:=hi;have hi1:d=QdI Qh bc D0 u:=hi1;have hi2:v=newK tm bc (List.zipWith Qh bc D0) N0 u:=hi2;have hdl1:d.length=bc.length:=by rw[hi1,QbQ hDl.symm hu];exact hDl
  have hdg:u<bc.length→d.getD u (dflt Qj)=D0.getD u (dflt Qj):=fun h=>by rw[hi1];exact QbR hDl.symm h _
  have hds:u<bc.length→d.set u (Qh (bc.getD u (dflt Qe)) (D0.getD u (dflt Qj)))=QdI Qh bc D0 (u+1):=fun h=>by rw[hi1];exact Qbk hDl.symm h _ _
  have hzl:bc.length=(List.zipWith Qh bc D0).length:=by rw[List.length_zipWith];omega
  have hzg:u<bc.length→(List.zipWith Qh bc D0).getD u (dflt Qj)=Qh (bc.getD u (dflt Qe)) (D0.getD u (dflt Qj)):=fun h=>Qgs hDl.symm h
  have hns:u<bc.length→newK tm bc (List.zipWith Qh bc D0) N0 (u+1)=v++(if Qal (bc.getD u (dflt Qe)) (Qh (bc.getD u (dflt Qe)) (D0.getD u (dflt Qj)))=N0.getD u 0 then [] else [(tm,(bc.getD u (dflt Qe)).1,Qal (bc.getD u (dflt Qe)) (Qh (bc.getD u (dflt Qe)) (D0.getD u (dflt Qj))))]):=fun h=>by
   rw[Qdg hzl hNl.symm h (dflt Qe) (dflt Qj),hzg h,hi2]
  have hol:v.length≤bc.length:=by
   rw[hi2];refine Nat.le_trans (Qbr _ _ _ _) ?_;rw[List.length_take];omega
  repeat' first|(apply Ea;conv=>whnf)|apply Eb|apply Ec<;>intro _|apply Ed<;>intro _|apply Ee<;>intro _|apply Ef hT hP
  all_goals(try dsimp only[Qf] at *)
  ·have g:(u:Int)<(bc.length:Int):=by assumption
   show 0≤(u:Int)∧(u:Int)<(bc.length:Int);omega
  ·have g:(u:Int)<(bc.length:Int):=by assumption
   show 0≤(u:Int)∧(u:Int)<(d.length:Int);omega
  ·have g:(u:Int)<(bc.length:Int):=by assumption
   show u<d.length;omega
  ·have g:(u:Int)<(bc.length:Int):=by assumption
   refine⟨hc _ (QG (dflt Qe) (show u<bc.length by omega)),?_⟩;show dP (d.getD u (dflt Qj));rw[hdg (by omega)];exact hDd _ (QG (dflt Qj) (show u<D0.length by omega))
  ·have g:(u:Int)<(bc.length:Int):=by assumption
   show 0≤(u:Int)∧(u:Int)<(d.length:Int);omega
  ·have g:(u:Int)<(bc.length:Int):=by assumption
   show u<d.length;omega
  ·have g:(u:Int)<(bc.length:Int):=by assumption
   show 0≤(u:Int)∧(u:Int)<(List.length (d.set _ _):Int);rw[List.length_set];omega
  ·have g:(u:Int)<(bc.length:Int):=by assumption
   show u<List.length (d.set _ _);rw[List.length_set];omega
  ·have g:(u:Int)<(bc.length:Int):=by assumption
   refine⟨hc _ (QG (dflt Qe) (show u<bc.length by omega)),?_⟩;show dP ((d.set u (Qh (bc.getD u (dflt Qe)) (d.getD u (dflt Qj)))).getD u (dflt Qj));rw[Qan (show u<d.length by omega),hdg (by omega),←hzg (by omega)];exact hTd _ (QG (dflt Qj) (show u<(List.zipWith Qh bc D0).length by omega))
  ·have g:(u:Int)<(bc.length:Int):=by assumption
   show 0≤(u:Int)∧(u:Int)<(N0.length:Int);omega
  ·have g:(u:Int)<(bc.length:Int):=by assumption
   show u<N0.length;omega
  ·have g:(u:Int)<(bc.length:Int):=by assumption
   show(v.length+1)*32≤140737488355328;omega
  ·rename_i g g2;have g:(u:Int)<(bc.length:Int):=g;have e1:(d.set u (Qh (bc.getD u (dflt Qe)) (d.getD u (dflt Qj)))).getD u (dflt Qj)=Qh (bc.getD u (dflt Qe)) (D0.getD u (dflt Qj)):=by rw[Qan (show u<d.length by omega),hdg (by omega)]
   have g2:(Qal (bc.getD u (dflt Qe)) ((d.set u (Qh (bc.getD u (dflt Qe)) (d.getD u (dflt Qj)))).getD u (dflt Qj)) != N0.getD u 0)=true:=g2;rw[e1] at g2;have g3:¬Qal (bc.getD u (dflt Qe)) (Qh (bc.getD u (dflt Qe)) (D0.getD u (dflt Qj)))=N0.getD u 0:=by simpa using g2
   have hns:=hns (by omega);rw[if_neg g3] at hns;have hds:=hds (by omega);rw[←hdg (by omega)] at hds;apply Ex (_,_) [] [0,1,2,3,9]
   ·repeat' constructor
   ·omega
   ·exact QL (by omega)
   refine⟨hds,?_⟩;rw[hns,←e1]
   try rfl
  ·rename_i g g2;have g:(u:Int)<(bc.length:Int):=g;have e1:(d.set u (Qh (bc.getD u (dflt Qe)) (d.getD u (dflt Qj)))).getD u (dflt Qj)=Qh (bc.getD u (dflt Qe)) (D0.getD u (dflt Qj)):=by rw[Qan (show u<d.length by omega),hdg (by omega)]
   have g2:(Qal (bc.getD u (dflt Qe)) ((d.set u (Qh (bc.getD u (dflt Qe)) (d.getD u (dflt Qj)))).getD u (dflt Qj)) != N0.getD u 0)=false:=g2;rw[e1] at g2;have g3:Qal (bc.getD u (dflt Qe)) (Qh (bc.getD u (dflt Qe)) (D0.getD u (dflt Qj)))=N0.getD u 0:=by simpa using g2
   have hns:=hns (by omega);rw[if_pos g3,List.append_nil] at hns;have hds:=hds (by omega);rw[←hdg (by omega)] at hds;apply Ex (_,v) [] [0,1,2,3,4]
   ·repeat' constructor
   ·omega
   ·exact QL (by omega)
   exact⟨hds,hns.symm⟩
  ·rename_i g;have g:¬(u:Int)<(bc.length:Int):=g;have e1:d=List.zipWith Qh bc D0:=by rw[hi1,QbC hDl.symm (by omega)]
   have e2:v=Qfe tm bc (List.zipWith Qh bc D0) N0:=by
    rw[hi2];unfold newK;rw[List.take_of_length_le (by omega),List.take_of_length_le (by omega),List.take_of_length_le (by omega)]
   have e3:i64.wrap (Qae tm (-1) 1099511627775+1)=Qcc tm:=QfW tm;have e:((i64.wrap (Qae tm (-1) 1099511627775+1),T0,d,A0.2.1,A0.2.2.1,I0),v)=Qo (bn,(un,ui,ur,uq,um),bc,bw) (tm,(r,op,at_,nmi),ds,bd,ba,bdt) l:=by rw[hcy,e1,e2,e3]
   exact .mk [] [2,4] _ R R R R R (congrArg (fun z:Mach×List Inp=>[some (Blk.arr Qj z.1.2.2.1),some (Blk.arr Qw z.2)]) e) (congrArg (fun z:Mach×List Inp=>AV.tup [QeI z.1 0,.c (.own 1)]) e)
 ·rename_i gx gb gc hf;have gx:¬(q:Int)<(bc.length:Int):=gx;have ho:=hLine gx;have hac:=QdB (b:=(bn,(un,ui,ur,uq,um),bc,bw)) (ds:=d0) (x:=(Qk (un,ui,ur,uq,um) (r,op,at_,n0) o).2) hL1 h3 hok.1
  have hI:(Qk (un,ui,ur,uq,um) (r,op,at_,n0) o).2.2.2=QbY (bn,(un,ui,ur,uq,um),bc,bw) d0 (Qk (un,ui,ur,uq,um) (r,op,at_,n0) o).2:=by
   exact(QfR (b:=(bn,(un,ui,ur,uq,um),bc,bw)) (x:=(Qk (un,ui,ur,uq,um) (r,op,at_,n0) o).2) gb).symm
  have hD:d0=QaV (bn,(un,ui,ur,uq,um),bc,bw) d0 (Qk (un,ui,ur,uq,um) (r,op,at_,n0) o).2:=by
   exact(Qjo (b:=(bn,(un,ui,ur,uq,um),bc,bw)) (x:=(Qk (un,ui,ur,uq,um) (r,op,at_,n0) o).2) hf).symm
  have hcy:Qo (bn,(un,ui,ur,uq,um),bc,bw) (tm,(r,op,at_,nmi),ds,bd,ba,bdt) l=((Qcc tm,QI (un,ui,ur,uq,um) (Qk (un,ui,ur,uq,um) (r,op,at_,n0) o).1 (QbY (bn,(un,ui,ur,uq,um),bc,bw) d0 (Qk (un,ui,ur,uq,um) (r,op,at_,n0) o).2),List.zipWith Qh bc (QaV (bn,(un,ui,ur,uq,um),bc,bw) d0 (Qk (un,ui,ur,uq,um) (r,op,at_,n0) o).2),(Qk (un,ui,ur,uq,um) (r,op,at_,n0) o).2.1,(Qk (un,ui,ur,uq,um) (r,op,at_,n0) o).2.2.1,QbY (bn,(un,ui,ur,uq,um),bc,bw) d0 (Qk (un,ui,ur,uq,um) (r,op,at_,n0) o).2),Qfe tm bc (List.zipWith Qh bc (QaV (bn,(un,ui,ur,uq,um),bc,bw) d0 (Qk (un,ui,ur,uq,um) (r,op,at_,n0) o).2)) N0):=by
   subst ho;unfold Qo;simp only[eG];rw[←hN0]
  have hDl:(QaV (bn,(un,ui,ur,uq,um),bc,bw) d0 (Qk (un,ui,ur,uq,um) (r,op,at_,n0) o).2).length=bc.length:=by rw[hac.2];exact hdl.symm
  have hDd:∀d∈QaV (bn,(un,ui,ur,uq,um),bc,bw) d0 (Qk (un,ui,ur,uq,um) (r,op,at_,n0) o).2,dP d:=fun d h=>(hac.1 d h).dP hL
  have hTd:∀d∈List.zipWith Qh bc (QaV (bn,(un,ui,ur,uq,um),bc,bw) d0 (Qk (un,ui,ur,uq,um) (r,op,at_,n0) o).2),dP d:=fun d h=>(QbK h3 hac.1 d h).dP hL
  generalize hD1:QaV (bn,(un,ui,ur,uq,um),bc,bw) d0 (Qk (un,ui,ur,uq,um) (r,op,at_,n0) o).2=D0 at *;generalize hI1:QbY (bn,(un,ui,ur,uq,um),bc,bw) d0 (Qk (un,ui,ur,uq,um) (r,op,at_,n0) o).2=I0 at *
  refine QH hT hP (A:=List Dv×List Inp) bc.length (fun i s=>St.mk (E3 (E1 ((.cell (.ptr 0 0))::E1 ((.cell (.ptr 1 0))::E1 ((.cell (.own 3))::E10 ((.cell (.own 4))::E40 (E40 (E40 (E40 (E40 (E10 (E5 (E3 (E1 ((.cell (.ro Qe bc))::(I bc.length)::(I i)::E40 (E5 []))))))))))))))))
   [some (.var [iv .i64 tm,.run .i64 9 (QI (un,ui,ur,uq,um) (Qk (un,ui,ur,uq,um) (r,op,at_,n0) o).1 I0).1,iv .i64 (QI (un,ui,ur,uq,um) (Qk (un,ui,ur,uq,um) (r,op,at_,n0) o).1 I0).2.1,iv .i64 (QI (un,ui,ur,uq,um) (Qk (un,ui,ur,uq,um) (r,op,at_,n0) o).1 I0).2.2.1,bv (QI (un,ui,ur,uq,um) (Qk (un,ui,ur,uq,um) (r,op,at_,n0) o).1 I0).2.2.2,.own 2,iv .i64 (Qk (un,ui,ur,uq,um) (r,op,at_,n0) o).2.1,iv .i64 (Qk (un,ui,ur,uq,um) (r,op,at_,n0) o).2.2.1,iv .i64 I0]),
    some (.var [.imm (.int .i64 0),.run .i64 9 (List.replicate 9 0),.imm (.int .i64 0),.imm (.int .i64 0),.imm (.bool false),.imm (.slice none 0 0),.imm (.int .i64 0),.imm (.int .i64 0),.imm (.int .i64 0)]),some (.arr Qj s.1),some (.arr (.int .i64) N0),some (.arr Qw s.2)])
   (fun k s=>s.1=QdI Qh bc D0 k∧s.2=newK tm bc (List.zipWith Qh bc D0) N0 k) (D0,[]) (.trans (Le.nil 19 Qw rfl) (Le.mk [] [1,2,3,4,6] R R ?_ ?_)) ⟨(QfQ _ _ _).symm,rfl⟩ fun u s hu hi=>?_
  ·exact Qis hI hD
  ·repeat' constructor
  generalize hT0:QI (un,ui,ur,uq,um) (Qk (un,ui,ur,uq,um) (r,op,at_,n0) o).1 I0=T0 at *;generalize(Qk (un,ui,ur,uq,um) (r,op,at_,n0) o)=A0 at *;obtain⟨d,v⟩:=s;obtain⟨hi1,hi2⟩:=hi;have hi1:d=QdI Qh bc D0 u:=hi1;have hi2:v=newK tm bc (List.zipWith Qh bc D0) N0 u:=hi2;have hdl1:d.length=bc.length:=by rw[hi1,QbQ hDl.symm hu];exact hDl
  have hdg:u<bc.length→d.getD u (dflt Qj)=D0.getD u (dflt Qj):=fun h=>by rw[hi1];exact QbR hDl.symm h _
  have hds:u<bc.length→d.set u (Qh (bc.getD u (dflt Qe)) (D0.getD u (dflt Qj)))=QdI Qh bc D0 (u+1):=fun h=>by rw[hi1];exact Qbk hDl.symm h _ _
  have hzl:bc.length=(List.zipWith Qh bc D0).length:=by rw[List.length_zipWith];omega
  have hzg:u<bc.length→(List.zipWith Qh bc D0).getD u (dflt Qj)=Qh (bc.getD u (dflt Qe)) (D0.getD u (dflt Qj)):=fun h=>Qgs hDl.symm h
  have hns:u<bc.length→newK tm bc (List.zipWith Qh bc D0) N0 (u+1)=v++(if Qal (bc.getD u (dflt Qe)) (Qh (bc.getD u (dflt Qe)) (D0.getD u (dflt Qj)))=N0.getD u 0 then [] else [(tm,(bc.getD u (dflt Qe)).1,Qal (bc.getD u (dflt Qe)) (Qh (bc.getD u (dflt Qe)) (D0.getD u (dflt Qj))))]):=fun h=>by
   rw[Qdg hzl hNl.symm h (dflt Qe) (dflt Qj),hzg h,hi2]
  have hol:v.length≤bc.length:=by
   rw[hi2];refine Nat.le_trans (Qbr _ _ _ _) ?_;rw[List.length_take];omega
  repeat' first|(apply Ea;conv=>whnf)|apply Eb|apply Ec<;>intro _|apply Ed<;>intro _|apply Ee<;>intro _|apply Ef hT hP
  all_goals(try dsimp only[Qf] at *)
  ·have g:(u:Int)<(bc.length:Int):=by assumption
   show 0≤(u:Int)∧(u:Int)<(bc.length:Int);omega
  ·have g:(u:Int)<(bc.length:Int):=by assumption
   show 0≤(u:Int)∧(u:Int)<(d.length:Int);omega
  ·have g:(u:Int)<(bc.length:Int):=by assumption
   show u<d.length;omega
  ·have g:(u:Int)<(bc.length:Int):=by assumption
   refine⟨hc _ (QG (dflt Qe) (show u<bc.length by omega)),?_⟩;show dP (d.getD u (dflt Qj));rw[hdg (by omega)];exact hDd _ (QG (dflt Qj) (show u<D0.length by omega))
  ·have g:(u:Int)<(bc.length:Int):=by assumption
   show 0≤(u:Int)∧(u:Int)<(d.length:Int);omega
  ·have g:(u:Int)<(bc.length:Int):=by assumption
   show u<d.length;omega
  ·have g:(u:Int)<(bc.length:Int):=by assumption
   show 0≤(u:Int)∧(u:Int)<(List.length (d.set _ _):Int);rw[List.length_set];omega
  ·have g:(u:Int)<(bc.length:Int):=by assumption
   show u<List.length (d.set _ _);rw[List.length_set];omega
  ·have g:(u:Int)<(bc.length:Int):=by assumption
   refine⟨hc _ (QG (dflt Qe) (show u<bc.length by omega)),?_⟩;show dP ((d.set u (Qh (bc.getD u (dflt Qe)) (d.getD u (dflt Qj)))).getD u (dflt Qj));rw[Qan (show u<d.length by omega),hdg (by omega),←hzg (by omega)];exact hTd _ (QG (dflt Qj) (show u<(List.zipWith Qh bc D0).length by omega))
  ·have g:(u:Int)<(bc.length:Int):=by assumption
   show 0≤(u:Int)∧(u:Int)<(N0.length:Int);omega
  ·have g:(u:Int)<(bc.length:Int):=by assumption
   show u<N0.length;omega
  ·have g:(u:Int)<(bc.length:Int):=by assumption
   show(v.length+1)*32≤140737488355328;omega
  ·rename_i g g2;have g:(u:Int)<(bc.length:Int):=g;have e1:(d.set u (Qh (bc.getD u (dflt Qe)) (d.getD u (dflt Qj)))).getD u (dflt Qj)=Qh (bc.getD u (dflt Qe)) (D0.getD u (dflt Qj)):=by rw[Qan (show u<d.length by omega),hdg (by omega)]
   have g2:(Qal (bc.getD u (dflt Qe)) ((d.set u (Qh (bc.getD u (dflt Qe)) (d.getD u (dflt Qj)))).getD u (dflt Qj)) != N0.getD u 0)=true:=g2;rw[e1] at g2;have g3:¬Qal (bc.getD u (dflt Qe)) (Qh (bc.getD u (dflt Qe)) (D0.getD u (dflt Qj)))=N0.getD u 0:=by simpa using g2
   have hns:=hns (by omega);rw[if_neg g3] at hns;have hds:=hds (by omega);rw[←hdg (by omega)] at hds;apply Ex (_,_) [] [0,1,2,3,9]
   ·repeat' constructor
   ·omega
   ·exact QL (by omega)
   refine⟨hds,?_⟩;rw[hns,←e1]
   try rfl
  ·rename_i g g2;have g:(u:Int)<(bc.length:Int):=g;have e1:(d.set u (Qh (bc.getD u (dflt Qe)) (d.getD u (dflt Qj)))).getD u (dflt Qj)=Qh (bc.getD u (dflt Qe)) (D0.getD u (dflt Qj)):=by rw[Qan (show u<d.length by omega),hdg (by omega)]
   have g2:(Qal (bc.getD u (dflt Qe)) ((d.set u (Qh (bc.getD u (dflt Qe)) (d.getD u (dflt Qj)))).getD u (dflt Qj)) != N0.getD u 0)=false:=g2;rw[e1] at g2;have g3:Qal (bc.getD u (dflt Qe)) (Qh (bc.getD u (dflt Qe)) (D0.getD u (dflt Qj)))=N0.getD u 0:=by simpa using g2
   have hns:=hns (by omega);rw[if_pos g3,List.append_nil] at hns;have hds:=hds (by omega);rw[←hdg (by omega)] at hds;apply Ex (_,v) [] [0,1,2,3,4]
   ·repeat' constructor
   ·omega
   ·exact QL (by omega)
   exact⟨hds,hns.symm⟩
  ·rename_i g;have g:¬(u:Int)<(bc.length:Int):=g;have e1:d=List.zipWith Qh bc D0:=by rw[hi1,QbC hDl.symm (by omega)]
   have e2:v=Qfe tm bc (List.zipWith Qh bc D0) N0:=by
    rw[hi2];unfold newK;rw[List.take_of_length_le (by omega),List.take_of_length_le (by omega),List.take_of_length_le (by omega)]
   have e3:i64.wrap (Qae tm (-1) 1099511627775+1)=Qcc tm:=QfW tm;have e:((i64.wrap (Qae tm (-1) 1099511627775+1),T0,d,A0.2.1,A0.2.2.1,I0),v)=Qo (bn,(un,ui,ur,uq,um),bc,bw) (tm,(r,op,at_,nmi),ds,bd,ba,bdt) l:=by rw[hcy,e1,e2,e3]
   exact .mk [] [2,4] _ R R R R R (congrArg (fun z:Mach×List Inp=>[some (Blk.arr Qj z.1.2.2.1),some (Blk.arr Qw z.2)]) e) (congrArg (fun z:Mach×List Inp=>AV.tup [QeI z.1 0,.c (.own 1)]) e)
 ·rename_i gx gb gc;have gx:¬(q:Int)<(bc.length:Int):=gx;have ho:=hLine gx;have hac:=QdB (b:=(bn,(un,ui,ur,uq,um),bc,bw)) (ds:=d0) (x:=(Qk (un,ui,ur,uq,um) (r,op,at_,n0) o).2) hL1 h3 hok.1
  have hI:(Qk (un,ui,ur,uq,um) (r,op,at_,n0) o).2.2.2=QbY (bn,(un,ui,ur,uq,um),bc,bw) d0 (Qk (un,ui,ur,uq,um) (r,op,at_,n0) o).2:=by
   exact(QfR (b:=(bn,(un,ui,ur,uq,um),bc,bw)) (x:=(Qk (un,ui,ur,uq,um) (r,op,at_,n0) o).2) gb).symm
  have hD:d0=QaV (bn,(un,ui,ur,uq,um),bc,bw) d0 (Qk (un,ui,ur,uq,um) (r,op,at_,n0) o).2:=by
   exact(QvC (b:=(bn,(un,ui,ur,uq,um),bc,bw)) (x:=(Qk (un,ui,ur,uq,um) (r,op,at_,n0) o).2) gb gc).symm
  have hcy:Qo (bn,(un,ui,ur,uq,um),bc,bw) (tm,(r,op,at_,nmi),ds,bd,ba,bdt) l=((Qcc tm,QI (un,ui,ur,uq,um) (Qk (un,ui,ur,uq,um) (r,op,at_,n0) o).1 (QbY (bn,(un,ui,ur,uq,um),bc,bw) d0 (Qk (un,ui,ur,uq,um) (r,op,at_,n0) o).2),List.zipWith Qh bc (QaV (bn,(un,ui,ur,uq,um),bc,bw) d0 (Qk (un,ui,ur,uq,um) (r,op,at_,n0) o).2),(Qk (un,ui,ur,uq,um) (r,op,at_,n0) o).2.1,(Qk (un,ui,ur,uq,um) (r,op,at_,n0) o).2.2.1,QbY (bn,(un,ui,ur,uq,um),bc,bw) d0 (Qk (un,ui,ur,uq,um) (r,op,at_,n0) o).2),Qfe tm bc (List.zipWith Qh bc (QaV (bn,(un,ui,ur,uq,um),bc,bw) d0 (Qk (un,ui,ur,uq,um) (r,op,at_,n0) o).2)) N0):=by
   subst ho;unfold Qo;simp only[eG];rw[←hN0]
  have hDl:(QaV (bn,(un,ui,ur,uq,um),bc,bw) d0 (Qk (un,ui,ur,uq,um) (r,op,at_,n0) o).2).length=bc.length:=by rw[hac.2];exact hdl.symm
  have hDd:∀d∈QaV (bn,(un,ui,ur,uq,um),bc,bw) d0 (Qk (un,ui,ur,uq,um) (r,op,at_,n0) o).2,dP d:=fun d h=>(hac.1 d h).dP hL
  have hTd:∀d∈List.zipWith Qh bc (QaV (bn,(un,ui,ur,uq,um),bc,bw) d0 (Qk (un,ui,ur,uq,um) (r,op,at_,n0) o).2),dP d:=fun d h=>(QbK h3 hac.1 d h).dP hL
  generalize hD1:QaV (bn,(un,ui,ur,uq,um),bc,bw) d0 (Qk (un,ui,ur,uq,um) (r,op,at_,n0) o).2=D0 at *;generalize hI1:QbY (bn,(un,ui,ur,uq,um),bc,bw) d0 (Qk (un,ui,ur,uq,um) (r,op,at_,n0) o).2=I0 at *
  refine QH hT hP (A:=List Dv×List Inp) bc.length (fun i s=>St.mk (E3 (E1 ((.cell (.ptr 0 0))::E1 ((.cell (.ptr 1 0))::E1 ((.cell (.own 3))::E10 ((.cell (.own 4))::E40 (E40 (E40 (E40 (E40 (E10 (E5 (E3 (E1 ((.cell (.ro Qe bc))::(I bc.length)::(I i)::E40 (E5 []))))))))))))))))
   [some (.var [iv .i64 tm,.run .i64 9 (QI (un,ui,ur,uq,um) (Qk (un,ui,ur,uq,um) (r,op,at_,n0) o).1 I0).1,iv .i64 (QI (un,ui,ur,uq,um) (Qk (un,ui,ur,uq,um) (r,op,at_,n0) o).1 I0).2.1,iv .i64 (QI (un,ui,ur,uq,um) (Qk (un,ui,ur,uq,um) (r,op,at_,n0) o).1 I0).2.2.1,bv (QI (un,ui,ur,uq,um) (Qk (un,ui,ur,uq,um) (r,op,at_,n0) o).1 I0).2.2.2,.own 2,iv .i64 (Qk (un,ui,ur,uq,um) (r,op,at_,n0) o).2.1,iv .i64 (Qk (un,ui,ur,uq,um) (r,op,at_,n0) o).2.2.1,iv .i64 I0]),
    some (.var [.imm (.int .i64 0),.run .i64 9 (List.replicate 9 0),.imm (.int .i64 0),.imm (.int .i64 0),.imm (.bool false),.imm (.slice none 0 0),.imm (.int .i64 0),.imm (.int .i64 0),.imm (.int .i64 0)]),some (.arr Qj s.1),some (.arr (.int .i64) N0),some (.arr Qw s.2)])
   (fun k s=>s.1=QdI Qh bc D0 k∧s.2=newK tm bc (List.zipWith Qh bc D0) N0 k) (D0,[]) (.trans (Le.nil 19 Qw rfl) (Le.mk [] [1,2,3,4,6] R R ?_ ?_)) ⟨(QfQ _ _ _).symm,rfl⟩ fun u s hu hi=>?_
  ·exact Qis hI hD
  ·repeat' constructor
  generalize hT0:QI (un,ui,ur,uq,um) (Qk (un,ui,ur,uq,um) (r,op,at_,n0) o).1 I0=T0 at *;generalize(Qk (un,ui,ur,uq,um) (r,op,at_,n0) o)=A0 at *;obtain⟨d,v⟩:=s;obtain⟨hi1,hi2⟩:=hi;have hi1:d=QdI Qh bc D0 u:=hi1;have hi2:v=newK tm bc (List.zipWith Qh bc D0) N0 u:=hi2;have hdl1:d.length=bc.length:=by rw[hi1,QbQ hDl.symm hu];exact hDl
  have hdg:u<bc.length→d.getD u (dflt Qj)=D0.getD u (dflt Qj):=fun h=>by rw[hi1];exact QbR hDl.symm h _
  have hds:u<bc.length→d.set u (Qh (bc.getD u (dflt Qe)) (D0.getD u (dflt Qj)))=QdI Qh bc D0 (u+1):=fun h=>by rw[hi1];exact Qbk hDl.symm h _ _
  have hzl:bc.length=(List.zipWith Qh bc D0).length:=by rw[List.length_zipWith];omega
  have hzg:u<bc.length→(List.zipWith Qh bc D0).getD u (dflt Qj)=Qh (bc.getD u (dflt Qe)) (D0.getD u (dflt Qj)):=fun h=>Qgs hDl.symm h
  have hns:u<bc.length→newK tm bc (List.zipWith Qh bc D0) N0 (u+1)=v++(if Qal (bc.getD u (dflt Qe)) (Qh (bc.getD u (dflt Qe)) (D0.getD u (dflt Qj)))=N0.getD u 0 then [] else [(tm,(bc.getD u (dflt Qe)).1,Qal (bc.getD u (dflt Qe)) (Qh (bc.getD u (dflt Qe)) (D0.getD u (dflt Qj))))]):=fun h=>by
   rw[Qdg hzl hNl.symm h (dflt Qe) (dflt Qj),hzg h,hi2]
  have hol:v.length≤bc.length:=by
   rw[hi2];refine Nat.le_trans (Qbr _ _ _ _) ?_;rw[List.length_take];omega
  repeat' first|(apply Ea;conv=>whnf)|apply Eb|apply Ec<;>intro _|apply Ed<;>intro _|apply Ee<;>intro _|apply Ef hT hP
  all_goals(try dsimp only[Qf] at *)
  ·have g:(u:Int)<(bc.length:Int):=by assumption
   show 0≤(u:Int)∧(u:Int)<(bc.length:Int);omega
  ·have g:(u:Int)<(bc.length:Int):=by assumption
   show 0≤(u:Int)∧(u:Int)<(d.length:Int);omega
  ·have g:(u:Int)<(bc.length:Int):=by assumption
   show u<d.length;omega
  ·have g:(u:Int)<(bc.length:Int):=by assumption
   refine⟨hc _ (QG (dflt Qe) (show u<bc.length by omega)),?_⟩;show dP (d.getD u (dflt Qj));rw[hdg (by omega)];exact hDd _ (QG (dflt Qj) (show u<D0.length by omega))
  ·have g:(u:Int)<(bc.length:Int):=by assumption
   show 0≤(u:Int)∧(u:Int)<(d.length:Int);omega
  ·have g:(u:Int)<(bc.length:Int):=by assumption
   show u<d.length;omega
  ·have g:(u:Int)<(bc.length:Int):=by assumption
   show 0≤(u:Int)∧(u:Int)<(List.length (d.set _ _):Int);rw[List.length_set];omega
  ·have g:(u:Int)<(bc.length:Int):=by assumption
   show u<List.length (d.set _ _);rw[List.length_set];omega
  ·have g:(u:Int)<(bc.length:Int):=by assumption
   refine⟨hc _ (QG (dflt Qe) (show u<bc.length by omega)),?_⟩;show dP ((d.set u (Qh (bc.getD u (dflt Qe)) (d.getD u (dflt Qj)))).getD u (dflt Qj));rw[Qan (show u<d.length by omega),hdg (by omega),←hzg (by omega)];exact hTd _ (QG (dflt Qj) (show u<(List.zipWith Qh bc D0).length by omega))
  ·have g:(u:Int)<(bc.length:Int):=by assumption
   show 0≤(u:Int)∧(u:Int)<(N0.length:Int);omega
  ·have g:(u:Int)<(bc.length:Int):=by assumption
   show u<N0.length;omega
  ·have g:(u:Int)<(bc.length:Int):=by assumption
   show(v.length+1)*32≤140737488355328;omega
  ·rename_i g g2;have g:(u:Int)<(bc.length:Int):=g;have e1:(d.set u (Qh (bc.getD u (dflt Qe)) (d.getD u (dflt Qj)))).getD u (dflt Qj)=Qh (bc.getD u (dflt Qe)) (D0.getD u (dflt Qj)):=by rw[Qan (show u<d.length by omega),hdg (by omega)]
   have g2:(Qal (bc.getD u (dflt Qe)) ((d.set u (Qh (bc.getD u (dflt Qe)) (d.getD u (dflt Qj)))).getD u (dflt Qj)) != N0.getD u 0)=true:=g2;rw[e1] at g2;have g3:¬Qal (bc.getD u (dflt Qe)) (Qh (bc.getD u (dflt Qe)) (D0.getD u (dflt Qj)))=N0.getD u 0:=by simpa using g2
   have hns:=hns (by omega);rw[if_neg g3] at hns;have hds:=hds (by omega);rw[←hdg (by omega)] at hds;apply Ex (_,_) [] [0,1,2,3,9]
   ·repeat' constructor
   ·omega
   ·exact QL (by omega)
   refine⟨hds,?_⟩;rw[hns,←e1]
   try rfl
  ·rename_i g g2;have g:(u:Int)<(bc.length:Int):=g;have e1:(d.set u (Qh (bc.getD u (dflt Qe)) (d.getD u (dflt Qj)))).getD u (dflt Qj)=Qh (bc.getD u (dflt Qe)) (D0.getD u (dflt Qj)):=by rw[Qan (show u<d.length by omega),hdg (by omega)]
   have g2:(Qal (bc.getD u (dflt Qe)) ((d.set u (Qh (bc.getD u (dflt Qe)) (d.getD u (dflt Qj)))).getD u (dflt Qj)) != N0.getD u 0)=false:=g2;rw[e1] at g2;have g3:Qal (bc.getD u (dflt Qe)) (Qh (bc.getD u (dflt Qe)) (D0.getD u (dflt Qj)))=N0.getD u 0:=by simpa using g2
   have hns:=hns (by omega);rw[if_pos g3,List.append_nil] at hns;have hds:=hds (by omega);rw[←hdg (by omega)] at hds;apply Ex (_,v) [] [0,1,2,3,4]
   ·repeat' constructor
   ·omega
   ·exact QL (by omega)
   exact⟨hds,hns.symm⟩
  ·rename_i g;have g:¬(u:Int)<(bc.length:Int):=g;have e1:d=List.zipWith Qh bc D0:=by rw[hi1,QbC hDl.symm (by omega)]
   have e2:v=Qfe tm bc (List.zipWith Qh bc D0) N0:=by
    rw[hi2];unfold newK;rw[List.take_of_length_le (by omega),List.take_of_length_le (by omega),List.take_of_length_le (by omega)]
   have e3:i64.wrap (Qae tm (-1) 1099511627775+1)=Qcc tm:=QfW tm;have e:((i64.wrap (Qae tm (-1) 1099511627775+1),T0,d,A0.2.1,A0.2.2.1,I0),v)=Qo (bn,(un,ui,ur,uq,um),bc,bw) (tm,(r,op,at_,nmi),ds,bd,ba,bdt) l:=by rw[hcy,e1,e2,e3]
   exact .mk [] [2,4] _ R R R R R (congrArg (fun z:Mach×List Inp=>[some (Blk.arr Qj z.1.2.2.1),some (Blk.arr Qw z.2)]) e) (congrArg (fun z:Mach×List Inp=>AV.tup [QeI z.1 0,.c (.own 1)]) e)
end Go.Proofs.YtofgbclopbmlcaaGreat

