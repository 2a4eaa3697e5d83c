/- Part 38 of the proof. Conditions: none. -/
import Derived.Test.YtofgbclopbmlcaaGreatG36
import Derived.Test.YtofgbclopbmlcaaGreatG37
import Derived.Test.YtofgbclopbmlcaaGreatG27
import Derived.Test.YtofgbclopbmlcaaGreatG35
import Derived.Test.YtofgbclopbmlcaaGreatG28
import Derived.Test.YtofgbclopbmlcaaGreatG33
namespace Go.Proofs.YtofgbclopbmlcaaGreat
set_option maxHeartbeats 8000000
open Go.Fw
set_option linter.unusedVariables false
set_option linter.unusedSimpArgs false
set_option linter.constructorNameAsVariable false
set_option maxRecDepth 100000
theorem Qim(c:Cpu)(k:Kor)(i:Bool):0≤(Qk c k i).2.2.1∧(Qk c k i).2.2.1<66000:=by
 have hs:=Qer c (QE k.1,k.2) i
 have h1:(if k.2.1=-1 then Qbh c (QE k.1,k.2) i else (QE k.1,k.2)).1=QE k.1:=by
  split
  ·exact hs
  ·rfl
 unfold Qk;dsimp only;generalize(if k.2.1=-1 then Qbh c (QE k.1,k.2) i else (QE k.1,k.2))=k1 at *;have h2:r16 k1.1:=by rw[h1];exact Qij _
 repeat' split
 all_goals first
  |exact Qvx 0 h2
  |exact Qvx (doF c k1.2.1 k1.2.2.1).2.1 h2
  |(show(0:Int)≤0∧(0:Int)<66000;decide)
theorem Qgs{f:Cv→Dv→Dv}{cs:List Cv}{ds:List Dv}{k:Nat}(h:cs.length=ds.length)(hk:k<cs.length):(List.zipWith f cs ds).getD k (dflt Qj)=f (cs.getD k (dflt Qe)) (ds.getD k (dflt Qj)):=by
 rw[List.getD_eq_getElem?_getD,List.getElem?_zipWith,List.getD_eq_getElem?_getD,List.getElem?_eq_getElem hk,List.getD_eq_getElem?_getD,List.getElem?_eq_getElem (show k<ds.length by omega)];rfl
theorem Qp7{f:Cv→Dv→Int}{cs:List Cv}{ds:List Dv}(h:cs.length=ds.length):(List.zipWith f cs ds).length=cs.length:=by
 rw[List.length_zipWith];omega
theorem QfS{c:Cpu}{r:List Int}{o a:Int}{n:Bool}(h:Qa0 c (r,o,a,n))(n':Bool):Qa0 c (r,o,a,n'):=h
def QKc(x:StX):Prop:=((x.l.length≤4611686018427387904∧bdP x.b.v)∧Qa0 x.b.v.2.1 x.m.v.2.1)∧∃L,MOk L x.b.v x.m.v
def QGl:WSpec:=⟨StX,fun x=>[.agg (bdA x.b),.c (.ptr 0 0),.c (.ro Qw x.l)],fun x=>[.var (mcA x.m),.arr Qj x.m.ds],QHf,
 fun⟨⟨bn,un,ui,ur,uq,um,bc,bw⟩,⟨tm,r,op,at_,nmi,ds,bd,ba,bdt⟩,l⟩ =>
  (some (QKc ⟨⟨bn,un,ui,ur,uq,um,bc,bw⟩,⟨tm,r,op,at_,nmi,ds,bd,ba,bdt⟩,l⟩),.cell (.own 2),
    [some (.var [iv .i64 (Qo (bn,(un,ui,ur,uq,um),bc,bw) (tm,(r,op,at_,nmi),ds,bd,ba,bdt) l).1.1,.run .i64 9 (Qo (bn,(un,ui,ur,uq,um),bc,bw) (tm,(r,op,at_,nmi),ds,bd,ba,bdt) l).1.2.1.1,iv .i64 (Qo (bn,(un,ui,ur,uq,um),bc,bw) (tm,(r,op,at_,nmi),ds,bd,ba,bdt) l).1.2.1.2.1,iv .i64 (Qo (bn,(un,ui,ur,uq,um),bc,bw) (tm,(r,op,at_,nmi),ds,bd,ba,bdt) l).1.2.1.2.2.1,bv (Qo (bn,(un,ui,ur,uq,um),bc,bw) (tm,(r,op,at_,nmi),ds,bd,ba,bdt) l).1.2.1.2.2.2,.own 1,iv .i64 (Qo (bn,(un,ui,ur,uq,um),bc,bw) (tm,(r,op,at_,nmi),ds,bd,ba,bdt) l).1.2.2.2.1,iv .i64 (Qo (bn,(un,ui,ur,uq,um),bc,bw) (tm,(r,op,at_,nmi),ds,bd,ba,bdt) l).1.2.2.2.2.1,iv .i64 (Qo (bn,(un,ui,ur,uq,um),bc,bw) (tm,(r,op,at_,nmi),ds,bd,ba,bdt) l).1.2.2.2.2.2]),
    some (.arr Qj (Qo (bn,(un,ui,ur,uq,um),bc,bw) (tm,(r,op,at_,nmi),ds,bd,ba,bdt) l).1.2.2.1)],[.arr Qw (Qo (bn,(un,ui,ur,uq,um),bc,bw) (tm,(r,op,at_,nmi),ds,bd,ba,bdt) l).2])⟩
theorem Qan{d:List Dv}{k:Nat}{x:Dv}(h:k<d.length):(d.set k x).getD k (dflt Qj)=x:=by
 rw[List.getD_eq_getElem?_getD,List.getElem?_set_self h];rfl
theorem QDq{t:Int}{T:Kor}{a b i:Int}{d:List Dv}{o:List Inp}{p:Mach×List Inp}(h:p=((t,T,d,a,b,i),o)):[some (Blk.var [iv .i64 t,.run .i64 9 T.1,iv .i64 T.2.1,iv .i64 T.2.2.1,bv T.2.2.2,.own 1,iv .i64 a,iv .i64 b,iv .i64 i]),some (.arr Qj d),some (.arr Qw o)] =
 [some (Blk.var [iv .i64 p.1.1,.run .i64 9 p.1.2.1.1,iv .i64 p.1.2.1.2.1,iv .i64 p.1.2.1.2.2.1,bv p.1.2.1.2.2.2,.own 1,iv .i64 p.1.2.2.2.1,iv .i64 p.1.2.2.2.2.1,iv .i64 p.1.2.2.2.2.2]),some (.arr Qj p.1.2.2.1),some (.arr Qw p.2)]:=by
 subst h;rfl
theorem Qp8:G0 70 QGl.spec:=by
 have hP:S0 _:=Qa Qzl (Qa QDm (Qa Qp6 (Qa QAL (Qa QDn (Qa Qvi (Qa Qx4 (Qa Qux (Qb (T:=tree)))))))));have hT:=tabs hP Qc;refine QGl.gd hT hP Tryz.func70 (fun _ _ _ h=>Qvv h) fun(x:StX) hq=>?_
 obtain⟨⟨bn,un,ui,ur,uq,um,bc,bw⟩,⟨tm,r,op,at_,nmi,ds,bd,ba,bdt⟩,l⟩:=x;obtain⟨⟨⟨hl,hbd⟩,htl⟩,L,hM⟩:QKc ⟨⟨bn,un,ui,ur,uq,um,bc,bw⟩,⟨tm,r,op,at_,nmi,ds,bd,ba,bdt⟩,l⟩:=hq _ rfl;clear hq;have hl:l.length≤4611686018427387904:=hl;have hbd:bdP (bn,(un,ui,ur,uq,um),bc,bw):=hbd;have htl:Qa0 (un,ui,ur,uq,um) (r,op,at_,nmi):=htl;have hbl:bc.length*64≤140737488351232:=hbd.1.1;have h2:bc.length=ds.length:=hM.l;have h3:Qrz L bc:=hM.c;have h4:Qg7 L ds:=hM.d;have hL:=hM.L2;have hL1:=hM.L1;have hc:∀c∈bc,cP c:=fun c h=>(h3 c h).1
 have hg:=Qeu (t:=tm) h3 l (s:=(ds,nmi)) h4 h2;have hgd:∀d∈(QJ bc tm l (ds,nmi)).1,dP d:=fun d h=>(hg.1 d h).dP hL
 have hgl:(QJ bc tm l (ds,nmi)).1.length=ds.length:=hg.2
 repeat' first|(apply Ea;conv=>whnf)|apply Eb|apply Ec<;>intro _|apply Ed<;>intro _|apply Ee<;>intro _|apply Ef hT hP
 all_goals(try dsimp only[Qf] at *)
 ·exact⟨h2,hbl,hc,fun d h=>(h4 d h).dP hL⟩
 ·exact⟨⟨hl,by show bc.length≤_;omega⟩,L,hM⟩
 ·exact⟨hbd,hgd⟩
 ·exact QnM (QfS htl (QJ bc tm l (ds,nmi)).2)
 ·refine⟨⟨by show bc.length≤_;omega,?_,fun c h=>⟨(hc c h).1,(hc c h).2.1⟩⟩,by show bc.length=List.length _;rw[hgl];exact h2,hc,hgd⟩;have:=Qim (un,ui,ur,uq,um) (r,op,at_,(QJ bc tm l (ds,nmi)).2) (Qz (bn,(un,ui,ur,uq,um),bc,bw) (QJ bc tm l (ds,nmi)).1);exact⟨by show _≤(Qk _ _ _).2.2.1;omega,by show(Qk _ _ _).2.2.1≤_;omega⟩
 ·exact Qii (QfS htl _) _
 have hac:=QdB (b:=(bn,(un,ui,ur,uq,um),bc,bw)) (ds:=(QJ bc tm l (ds,nmi)).1) (x:=(Qk (un,ui,ur,uq,um) (r,op,at_,(QJ bc tm l (ds,nmi)).2) (Qz (bn,(un,ui,ur,uq,um),bc,bw) (QJ bc tm l (ds,nmi)).1)).2) hL1 h3 hg.1;have hcy:Qo (bn,(un,ui,ur,uq,um),bc,bw) (tm,(r,op,at_,nmi),ds,bd,ba,bdt) l=((Qcc tm,(QI (un,ui,ur,uq,um) (Qk (un,ui,ur,uq,um) (r,op,at_,(QJ bc tm l (ds,nmi)).2) (Qz (bn,(un,ui,ur,uq,um),bc,bw) (QJ bc tm l (ds,nmi)).1)).1 (QbY (bn,(un,ui,ur,uq,um),bc,bw) (QJ bc tm l (ds,nmi)).1 (Qk (un,ui,ur,uq,um) (r,op,at_,(QJ bc tm l (ds,nmi)).2) (Qz (bn,(un,ui,ur,uq,um),bc,bw) (QJ bc tm l (ds,nmi)).1)).2)),List.zipWith Qh bc (QaV (bn,(un,ui,ur,uq,um),bc,bw) (QJ bc tm l (ds,nmi)).1 (Qk (un,ui,ur,uq,um) (r,op,at_,(QJ bc tm l (ds,nmi)).2) (Qz (bn,(un,ui,ur,uq,um),bc,bw) (QJ bc tm l (ds,nmi)).1)).2),(Qk (un,ui,ur,uq,um) (r,op,at_,(QJ bc tm l (ds,nmi)).2) (Qz (bn,(un,ui,ur,uq,um),bc,bw) (QJ bc tm l (ds,nmi)).1)).2.1,(Qk (un,ui,ur,uq,um) (r,op,at_,(QJ bc tm l (ds,nmi)).2) (Qz (bn,(un,ui,ur,uq,um),bc,bw) (QJ bc tm l (ds,nmi)).1)).2.2.1,(QbY (bn,(un,ui,ur,uq,um),bc,bw) (QJ bc tm l (ds,nmi)).1 (Qk (un,ui,ur,uq,um) (r,op,at_,(QJ bc tm l (ds,nmi)).2) (Qz (bn,(un,ui,ur,uq,um),bc,bw) (QJ bc tm l (ds,nmi)).1)).2)),Qfe tm bc (List.zipWith Qh bc (QaV (bn,(un,ui,ur,uq,um),bc,bw) (QJ bc tm l (ds,nmi)).1 (Qk (un,ui,ur,uq,um) (r,op,at_,(QJ bc tm l (ds,nmi)).2) (Qz (bn,(un,ui,ur,uq,um),bc,bw) (QJ bc tm l (ds,nmi)).1)).2)) (List.zipWith Qal bc ds)):=rfl;have hDl:(QaV (bn,(un,ui,ur,uq,um),bc,bw) (QJ bc tm l (ds,nmi)).1 (Qk (un,ui,ur,uq,um) (r,op,at_,(QJ bc tm l (ds,nmi)).2) (Qz (bn,(un,ui,ur,uq,um),bc,bw) (QJ bc tm l (ds,nmi)).1)).2).length=bc.length:=by rw[hac.2,hgl];exact h2.symm
 have hDd:∀d∈(QaV (bn,(un,ui,ur,uq,um),bc,bw) (QJ bc tm l (ds,nmi)).1 (Qk (un,ui,ur,uq,um) (r,op,at_,(QJ bc tm l (ds,nmi)).2) (Qz (bn,(un,ui,ur,uq,um),bc,bw) (QJ bc tm l (ds,nmi)).1)).2),dP d:=fun d h=>(hac.1 d h).dP hL
 have hTd:∀d∈List.zipWith Qh bc (QaV (bn,(un,ui,ur,uq,um),bc,bw) (QJ bc tm l (ds,nmi)).1 (Qk (un,ui,ur,uq,um) (r,op,at_,(QJ bc tm l (ds,nmi)).2) (Qz (bn,(un,ui,ur,uq,um),bc,bw) (QJ bc tm l (ds,nmi)).1)).2),dP d:=fun d h=>(QbK h3 hac.1 d h).dP hL
 generalize hT0:(QI (un,ui,ur,uq,um) (Qk (un,ui,ur,uq,um) (r,op,at_,(QJ bc tm l (ds,nmi)).2) (Qz (bn,(un,ui,ur,uq,um),bc,bw) (QJ bc tm l (ds,nmi)).1)).1 (QbY (bn,(un,ui,ur,uq,um),bc,bw) (QJ bc tm l (ds,nmi)).1 (Qk (un,ui,ur,uq,um) (r,op,at_,(QJ bc tm l (ds,nmi)).2) (Qz (bn,(un,ui,ur,uq,um),bc,bw) (QJ bc tm l (ds,nmi)).1)).2))=T0 at *;generalize hI0:(QbY (bn,(un,ui,ur,uq,um),bc,bw) (QJ bc tm l (ds,nmi)).1 (Qk (un,ui,ur,uq,um) (r,op,at_,(QJ bc tm l (ds,nmi)).2) (Qz (bn,(un,ui,ur,uq,um),bc,bw) (QJ bc tm l (ds,nmi)).1)).2)=I0 at *;generalize hA0:(QaV (bn,(un,ui,ur,uq,um),bc,bw) (QJ bc tm l (ds,nmi)).1 (Qk (un,ui,ur,uq,um) (r,op,at_,(QJ bc tm l (ds,nmi)).2) (Qz (bn,(un,ui,ur,uq,um),bc,bw) (QJ bc tm l (ds,nmi)).1)).2)=D0 at *;generalize(Qk (un,ui,ur,uq,um) (r,op,at_,(QJ bc tm l (ds,nmi)).2) (Qz (bn,(un,ui,ur,uq,um),bc,bw) (QJ bc tm l (ds,nmi)).1))=A0 at *;generalize hN0:List.zipWith Qal bc ds=N0 at *;have hNl:N0.length=bc.length:=by rw[←hN0];exact Qp7 h2
 refine QH hT hP (A:=List Dv×List Inp) bc.length (fun i s=>St.mk (E1 ((.cell (.ptr 0 0))::E5 ((.cell (.own 2))::(.cell (.own 3))::E40 (E10 (E2 ((.cell (.ro Qe bc))::(I bc.length)::(I i)::E40 (E10 (E5 (E2 [])))))))))
  [some (.var [iv .i64 tm,.run .i64 9 T0.1,iv .i64 T0.2.1,iv .i64 T0.2.2.1,bv T0.2.2.2,.own 1,iv .i64 A0.2.1,iv .i64 A0.2.2.1,iv .i64 I0]),some (.arr Qj s.1),some (.arr (.int .i64) N0),some (.arr Qw s.2)])
  (fun k s=>s.1=QdI Qh bc D0 k∧s.2=newK tm bc (List.zipWith Qh bc D0) N0 k) (D0,[]) (.trans (Le.nil 8 Qw rfl) (Le.k [] [0,1,3,4] ?_)) ⟨(QfQ _ _ _).symm,rfl⟩ fun k s hk hi=>?_
 ·repeat' constructor
 obtain⟨d,o⟩:=s;obtain⟨hi1,hi2⟩:=hi;have hi1:d=QdI Qh bc D0 k:=hi1;have hi2:o=newK tm bc (List.zipWith Qh bc D0) N0 k:=hi2;have hdl:d.length=bc.length:=by rw[hi1,QbQ hDl.symm hk];exact hDl
 have hdg:k<bc.length→d.getD k (dflt Qj)=D0.getD k (dflt Qj):=fun h=>by rw[hi1];exact QbR hDl.symm h _
 have hds:k<bc.length→d.set k (Qh (bc.getD k (dflt Qe)) (D0.getD k (dflt Qj)))=QdI Qh bc D0 (k+1):=fun h=>by rw[hi1];exact Qbk hDl.symm h _ _
 have hzl:bc.length=(List.zipWith Qh bc D0).length:=by rw[List.length_zipWith];omega
 have hzg:k<bc.length→(List.zipWith Qh bc D0).getD k (dflt Qj)=Qh (bc.getD k (dflt Qe)) (D0.getD k (dflt Qj)):=fun h=>Qgs hDl.symm h
 have hns:k<bc.length→newK tm bc (List.zipWith Qh bc D0) N0 (k+1)=o++(if Qal (bc.getD k (dflt Qe)) (Qh (bc.getD k (dflt Qe)) (D0.getD k (dflt Qj)))=N0.getD k 0 then [] else [(tm,(bc.getD k (dflt Qe)).1,Qal (bc.getD k (dflt Qe)) (Qh (bc.getD k (dflt Qe)) (D0.getD k (dflt Qj))))]):=fun h=>by
  rw[Qdg hzl hNl.symm h (dflt Qe) (dflt Qj),hzg h,hi2]
 have hol:o.length≤bc.length:=by
  rw[hi2];refine Nat.le_trans (Qbr _ _ _ _) ?_;rw[List.length_take];omega
 repeat' first|(apply Ea;conv=>whnf)|apply Eb|apply Ec<;>intro _|apply Ed<;>intro _|apply Ee<;>intro _|apply Ef hT hP
 all_goals(try dsimp only[Qf] at *)
 ·have g:(k:Int)<(bc.length:Int):=by assumption
  show 0≤(k:Int)∧(k:Int)<(bc.length:Int);omega
 ·have g:(k:Int)<(bc.length:Int):=by assumption
  show 0≤(k:Int)∧(k:Int)<(d.length:Int);omega
 ·have g:(k:Int)<(bc.length:Int):=by assumption
  show k<d.length;omega
 ·have g:(k:Int)<(bc.length:Int):=by assumption
  refine⟨hc _ (QG (dflt Qe) (show k<bc.length by omega)),?_⟩;show dP (d.getD k (dflt Qj));rw[hdg (by omega)];exact hDd _ (QG (dflt Qj) (show k<D0.length by omega))
 ·have g:(k:Int)<(bc.length:Int):=by assumption
  show 0≤(k:Int)∧(k:Int)<(d.length:Int);omega
 ·have g:(k:Int)<(bc.length:Int):=by assumption
  show k<d.length;omega
 ·have g:(k:Int)<(bc.length:Int):=by assumption
  show 0≤(k:Int)∧(k:Int)<(List.length (d.set _ _):Int);rw[List.length_set];omega
 ·have g:(k:Int)<(bc.length:Int):=by assumption
  show k<List.length (d.set _ _);rw[List.length_set];omega
 ·have g:(k:Int)<(bc.length:Int):=by assumption
  refine⟨hc _ (QG (dflt Qe) (show k<bc.length by omega)),?_⟩;show dP ((d.set k (Qh (bc.getD k (dflt Qe)) (d.getD k (dflt Qj)))).getD k (dflt Qj));rw[Qan (show k<d.length by omega),hdg (by omega),←hzg (by omega)];exact hTd _ (QG (dflt Qj) (show k<(List.zipWith Qh bc D0).length by omega))
 ·have g:(k:Int)<(bc.length:Int):=by assumption
  show 0≤(k:Int)∧(k:Int)<(N0.length:Int);omega
 ·have g:(k:Int)<(bc.length:Int):=by assumption
  show k<N0.length;omega
 ·have g:(k:Int)<(bc.length:Int):=by assumption
  show(o.length+1)*32≤140737488355328;omega
 ·rename_i g g2;have g:(k:Int)<(bc.length:Int):=g;have e1:(d.set k (Qh (bc.getD k (dflt Qe)) (d.getD k (dflt Qj)))).getD k (dflt Qj)=Qh (bc.getD k (dflt Qe)) (D0.getD k (dflt Qj)):=by rw[Qan (show k<d.length by omega),hdg (by omega)]
  have g2:(Qal (bc.getD k (dflt Qe)) ((d.set k (Qh (bc.getD k (dflt Qe)) (d.getD k (dflt Qj)))).getD k (dflt Qj)) != N0.getD k 0)=true:=g2;rw[e1] at g2;have g3:¬Qal (bc.getD k (dflt Qe)) (Qh (bc.getD k (dflt Qe)) (D0.getD k (dflt Qj)))=N0.getD k 0:=by simpa using g2
  have hns:=hns (by omega);rw[if_neg g3] at hns;have hds:=hds (by omega);rw[←hdg (by omega)] at hds;apply Ex (_,_) [] [0,1,2,8]
  ·repeat' constructor
  ·omega
  ·exact QL (by omega)
  refine⟨hds,?_⟩;rw[hns,←e1]
  try rfl
 ·rename_i g g2;have g:(k:Int)<(bc.length:Int):=g;have e1:(d.set k (Qh (bc.getD k (dflt Qe)) (d.getD k (dflt Qj)))).getD k (dflt Qj)=Qh (bc.getD k (dflt Qe)) (D0.getD k (dflt Qj)):=by rw[Qan (show k<d.length by omega),hdg (by omega)]
  have g2:(Qal (bc.getD k (dflt Qe)) ((d.set k (Qh (bc.getD k (dflt Qe)) (d.getD k (dflt Qj)))).getD k (dflt Qj)) != N0.getD k 0)=false:=g2;rw[e1] at g2;have g3:Qal (bc.getD k (dflt Qe)) (Qh (bc.getD k (dflt Qe)) (D0.getD k (dflt Qj)))=N0.getD k 0:=by simpa using g2
  have hns:=hns (by omega);rw[if_pos g3,List.append_nil] at hns;have hds:=hds (by omega);rw[←hdg (by omega)] at hds;apply Ex (_,o) [] [0,1,2,3]
  ·repeat' constructor
  ·omega
  ·exact QL (by omega)
  exact⟨hds,hns.symm⟩
 ·rename_i g;have g:¬(k:Int)<(bc.length:Int):=g;have e1:d=List.zipWith Qh bc D0:=by rw[hi1,QbC hDl.symm (by omega)]
  have e2:o=Qfe tm bc (List.zipWith Qh bc D0) N0:=by
   rw[hi2];unfold newK;rw[List.take_of_length_le (by omega),List.take_of_length_le (by omega),List.take_of_length_le (by omega)]
  have e3:IntKind.i64.wrap (imax (-1) (imin tm 1099511627775)+1)=Qcc tm:=by
   rw[QT,QU,w64 (by omega) (by omega)];rfl
  exact .mk [] [0,1,3] _ R R R R R (QDq (p:=Qo (bn,(un,ui,ur,uq,um),bc,bw) (tm,(r,op,at_,nmi),ds,bd,ba,bdt) l) (by rw[hcy,e1,e2,e3])) rfl
def nmB(s:ByteArray)(c:Cv):Bool:=Qm c.1 s
def QDr:List V1→List Blk→Option (Cv×ByteArray):=fun a b=>match a,b with
 | [.agg [.imm (.string en),.imm (.int .i64 ek),.imm (.int .i64 eb),.imm (.int .i64 es),.ro (.int .u8) ed],.c (.ptr 0 0)],[.var [.imm (.string s)]]=>some ((en,ek,eb,es,ed),s)
 |_,_=>none
theorem Qzm{a:List V1}{b:List Blk}{x:Cv×ByteArray}(h:QDr a b=some x):a=[.agg [.imm (.string x.1.1),iv .i64 x.1.2.1,iv .i64 x.1.2.2.1,iv .i64 x.1.2.2.2.1,.ro (.int .u8) x.1.2.2.2.2],.c (.ptr 0 0)]∧b=[.var [.imm (.string x.2)]]:=by
 unfold QDr at h;split at h
 ·injection h with h;subst h;exact⟨rfl,rfl⟩
 ·cases h
def QKd:WSpec:=⟨Cv×ByteArray,fun x=>[.agg [.imm (.string x.1.1),iv .i64 x.1.2.1,iv .i64 x.1.2.2.1,iv .i64 x.1.2.2.2.1,.ro (.int .u8) x.1.2.2.2.2],.c (.ptr 0 0)],fun x=>[.var [.imm (.string x.2)]],QDr,
 fun x=>(some ((fun _=>True) x.2),.cell (bv (nmB x.2 x.1)),[some (.var [.imm (.string x.2)])],[])⟩
theorem QGm:G0 241 QKd.spec:=by
 have hP:S0 _:=(Qb (T:=tree))
 have hT:=tabs hP Qc;refine QKd.gd hT hP Tryz.func241 (fun _ _ _ h=>Qzm h) fun(x:Cv×ByteArray) hq=>?_
 have hq:(fun _=>True) x.2:=hq _ rfl
 repeat' first|(apply Ea;conv=>whnf)|apply Eb|apply Ec<;>intro _|apply Ed<;>intro _|apply Ee<;>intro _|apply Ef hT hP
 all_goals exact .k [] [0] _ R R
structure biX where
 l:List Cv
 d:ByteArray
def QJd:List V1→List Blk→Option biX:=fun a b=>match a,b with
 | [.c (.ro (.pair .str (.pair (.int .i64) (.pair (.int .i64) (.pair (.int .i64) (.sl (.int .u8)))))) l),.c (.fn 241 [0])],[.var [.imm (.string s)]]=>some ⟨l,s⟩
 |_,_=>none
theorem QDs{a:List V1}{b:List Blk}{x:biX}(h:QJd a b=some x):a=[.c (.ro Qe x.l),.c (.fn 241 [0])]∧b=[.var [.imm (.string x.d)]]:=by
 unfold QJd at h;split at h
 ·injection h with h;subst h;exact⟨rfl,rfl⟩
 ·cases h
def QKe:WSpec:=⟨biX,fun x=>[.c (.ro Qe x.l),.c (.fn 241 [0])],fun x=>[.var [.imm (.string x.d)]],QJd,
 fun x=>(some (x.l.length≤4611686018427387904∧(fun _=>True) x.d),I (QbP (nmB x.d) x.l),[some (.var [.imm (.string x.d)])],[])⟩
theorem QGn:G0 98 QKe.spec:=by
 have hP:S0 _:=Qa QGm (Qb (T:=tree));have hT:=tabs hP Qc;refine QKe.gd hT hP Tryz.func98 (fun _ _ _ h=>QDs h) fun(x:biX) hq=>?_
 obtain⟨hl,hq⟩:x.l.length≤4611686018427387904∧(fun _=>True) x.d:=hq _ rfl;obtain⟨l,d⟩:=x;have hl:l.length≤4611686018427387904:=hl
 repeat' first|(apply Ea;conv=>whnf)|apply Eb|apply Ec<;>intro _|apply Ed<;>intro _|apply Ee<;>intro _|apply Ef hT hP
 refine QH hT hP (A:=Unit) l.length (fun i _=>St.mk ((.cell (.ro Qe l))::(.cell (.fn 241 [0]))::E5 ((I l.length)::(I i)::E10 [])) [some (.var [.imm (.string d)])])
  (fun k _=>QdH (nmB d) (l.drop k) k=QbP (nmB d) l) () (Le.mk [] [0] R R R ?_) rfl fun k _ hk hi=>?_
 ·repeat' constructor
 repeat' first|(apply Ea;conv=>whnf)|apply Eb|apply Ec<;>intro _|apply Ed<;>intro _|apply Ee<;>intro _|apply Ef hT hP
 all_goals clear hT hP
 ·rename_i g1;have g1:(k:Int)<(l.length:Int):=g1;show 0≤(k:Int)∧(k:Int)<(l.length:Int);omega
 ·first|exact hq|exact trivial
 ·rename_i g1 g2;have g1:(k:Int)<(l.length:Int):=g1;exact .k [] [0] _ rfl (Qd (Qdz (dflt Qe) (by omega) g2 hi))
 ·rename_i g1 g2;have g1:(k:Int)<(l.length:Int):=g1
  have hp:¬nmB d (l.getD k (dflt Qe))=true:=by
   have g2:nmB d (l.getD k (dflt Qe))=false:=g2;rw[g2];decide
  apply Ex () [] [0]
  ·repeat' constructor
  ·omega
  ·exact QL (by omega)
  exact Qbq (dflt Qe) (by omega) hp hi
 ·rename_i g1;have g1:¬(k:Int)<(l.length:Int):=g1;exact .k [] [0] _ rfl (Qd (QcJ (by omega) hi))
def QvS:PSpec:=⟨[gBd,Qya],fun(b,s,_)=>(some (b.2.2.1.length≤4611686018427387904),I (QbP (nmB s) b.2.2.1),[])⟩
theorem QvT:G0 194 QvS.spec:=by
 have hP:S0 _:=Qa QGn (Qb (T:=tree));have hT:=tabs hP Qc;refine QvS.gd hT hP Tryz.func194 fun(b:Bd) (s:ByteArray) hq=>?_
 have hl:b.2.2.1.length≤4611686018427387904:=hq _ rfl;obtain⟨bn,⟨un,ui,ur,uq,um⟩,bc,bw⟩:=b;clear hq
 repeat' first|(apply Ea;conv=>whnf)|apply Eb|apply Ec<;>intro _|apply Ed<;>intro _|apply Ee<;>intro _|apply Ef hT hP
 all_goals first
  |exact⟨hl,trivial⟩
  |exact .k [] [] _ R R
  |skip
def inB(x:Inp)(c:Cv):Bool:=Qm c.1 x.2.1
def QDt:List V1→List Blk→Option (Cv×Inp):=fun a b=>match a,b with
 | [.agg [.imm (.string en),.imm (.int .i64 ek),.imm (.int .i64 eb),.imm (.int .i64 es),.ro (.int .u8) ed],.c (.ptr 0 0)],[.var [.imm (.int .i64 ia),.imm (.string ic),.imm (.int .i64 n)]]=>some ((en,ek,eb,es,ed),(ia,ic,n))
 |_,_=>none
theorem Qzn{a:List V1}{b:List Blk}{x:Cv×Inp}(h:QDt a b=some x):a=[.agg [.imm (.string x.1.1),iv .i64 x.1.2.1,iv .i64 x.1.2.2.1,iv .i64 x.1.2.2.2.1,.ro (.int .u8) x.1.2.2.2.2],.c (.ptr 0 0)]∧b=[.var [iv .i64 x.2.1,.imm (.string x.2.2.1),iv .i64 x.2.2.2]]:=by
 unfold QDt at h;split at h
 ·injection h with h;subst h;exact⟨rfl,rfl⟩
 ·cases h
def QKf:WSpec:=⟨Cv×Inp,fun x=>[.agg [.imm (.string x.1.1),iv .i64 x.1.2.1,iv .i64 x.1.2.2.1,iv .i64 x.1.2.2.2.1,.ro (.int .u8) x.1.2.2.2.2],.c (.ptr 0 0)],fun x=>[.var [iv .i64 x.2.1,.imm (.string x.2.2.1),iv .i64 x.2.2.2]],QDt,
 fun x=>(some ((fun _=>True) x.2),.cell (bv (inB x.2 x.1)),[some (.var [iv .i64 x.2.1,.imm (.string x.2.2.1),iv .i64 x.2.2.2])],[])⟩
theorem QGo:G0 54 QKf.spec:=by
 have hP:S0 _:=(Qb (T:=tree))
 have hT:=tabs hP Qc;refine QKf.gd hT hP Tryz.func54 (fun _ _ _ h=>Qzn h) fun(x:Cv×Inp) hq=>?_
 have hq:(fun _=>True) x.2:=hq _ rfl
 repeat' first|(apply Ea;conv=>whnf)|apply Eb|apply Ec<;>intro _|apply Ed<;>intro _|apply Ee<;>intro _|apply Ef hT hP
 all_goals exact .k [] [0] _ R R
structure miX where
 l:List Cv
 d:Inp
def QHi:List V1→List Blk→Option miX:=fun a b=>match a,b with
 | [.c (.ro (.pair .str (.pair (.int .i64) (.pair (.int .i64) (.pair (.int .i64) (.sl (.int .u8)))))) l),.c (.fn 54 [0])],[.var [.imm (.int .i64 ia),.imm (.string ic),.imm (.int .i64 n)]]=>some ⟨l,(ia,ic,n)⟩
 |_,_=>none
theorem QvU{a:List V1}{b:List Blk}{x:miX}(h:QHi a b=some x):a=[.c (.ro Qe x.l),.c (.fn 54 [0])]∧b=[.var [iv .i64 x.d.1,.imm (.string x.d.2.1),iv .i64 x.d.2.2]]:=by
 unfold QHi at h;split at h
 ·injection h with h;subst h;exact⟨rfl,rfl⟩
 ·cases h
def QKg:WSpec:=⟨miX,fun x=>[.c (.ro Qe x.l),.c (.fn 54 [0])],fun x=>[.var [iv .i64 x.d.1,.imm (.string x.d.2.1),iv .i64 x.d.2.2]],QHi,
 fun x=>(some (x.l.length≤4611686018427387904∧(fun _=>True) x.d),I (QbP (inB x.d) x.l),[some (.var [iv .i64 x.d.1,.imm (.string x.d.2.1),iv .i64 x.d.2.2])],[])⟩
theorem QGp:G0 98 QKg.spec:=by
 have hP:S0 _:=Qa QGo (Qb (T:=tree));have hT:=tabs hP Qc;refine QKg.gd hT hP Tryz.func98 (fun _ _ _ h=>QvU h) fun(x:miX) hq=>?_
 obtain⟨hl,hq⟩:x.l.length≤4611686018427387904∧(fun _=>True) x.d:=hq _ rfl;obtain⟨l,d⟩:=x;have hl:l.length≤4611686018427387904:=hl
 repeat' first|(apply Ea;conv=>whnf)|apply Eb|apply Ec<;>intro _|apply Ed<;>intro _|apply Ee<;>intro _|apply Ef hT hP
 refine QH hT hP (A:=Unit) l.length (fun i _=>St.mk ((.cell (.ro Qe l))::(.cell (.fn 54 [0]))::E5 ((I l.length)::(I i)::E10 [])) [some (.var [iv .i64 d.1,.imm (.string d.2.1),iv .i64 d.2.2])])
  (fun k _=>QdH (inB d) (l.drop k) k=QbP (inB d) l) () (Le.mk [] [0] R R R ?_) rfl fun k _ hk hi=>?_
 ·repeat' constructor
 repeat' first|(apply Ea;conv=>whnf)|apply Eb|apply Ec<;>intro _|apply Ed<;>intro _|apply Ee<;>intro _|apply Ef hT hP
 all_goals clear hT hP
 ·rename_i g1;have g1:(k:Int)<(l.length:Int):=g1;show 0≤(k:Int)∧(k:Int)<(l.length:Int);omega
 ·first|exact hq|exact trivial
 ·rename_i g1 g2;have g1:(k:Int)<(l.length:Int):=g1;exact .k [] [0] _ rfl (Qd (Qdz (dflt Qe) (by omega) g2 hi))
 ·rename_i g1 g2;have g1:(k:Int)<(l.length:Int):=g1
  have hp:¬inB d (l.getD k (dflt Qe))=true:=by
   have g2:inB d (l.getD k (dflt Qe))=false:=g2;rw[g2];decide
  apply Ex () [] [0]
  ·repeat' constructor
  ·omega
  ·exact QL (by omega)
  exact Qbq (dflt Qe) (by omega) hp hi
 ·rename_i g1;have g1:¬(k:Int)<(l.length:Int):=g1;exact .k [] [0] _ rfl (Qd (QcJ (by omega) hi))
def QKh:WSpec:=⟨miX,fun x=>[.c (.ro Qe x.l),.c (.fn 54 [0])],fun x=>[.var [iv .i64 x.d.1,.imm (.string x.d.2.1),iv .i64 x.d.2.2]],QHi,
 fun x=>(some (x.l.length≤4611686018427387904∧(fun _=>True) x.d),.cell (bv (x.l.any (inB x.d))),[some (.var [iv .i64 x.d.1,.imm (.string x.d.2.1),iv .i64 x.d.2.2])],[])⟩
theorem QGq:G0 49 QKh.spec:=by
 have hP:S0 _:=Qa QGp (Qb (T:=tree));have hT:=tabs hP Qc;refine QKh.gd hT hP Tryz.func49 (fun _ _ _ h=>QvU h) fun(x:miX) hq=>?_
 have hq:x.l.length≤4611686018427387904∧(fun _=>True) x.d:=hq _ rfl;obtain⟨l,d⟩:=x
 repeat' first|(apply Ea;conv=>whnf)|apply Eb|apply Ec<;>intro _|apply Ed<;>intro _|apply Ee<;>intro _|apply Ef hT hP
 all_goals clear hT hP
 ·first|exact hq|exact trivial
 ·exact .k [] [0] _ rfl (Qi (Qia (inB d) l))
def Qzp:ByteArray:=⟨#[105,114,113]⟩
def QrR(b:Bd)(w:Wr):Int:=QbP (nmB (QdJ w.1)) b.2.2.1
def Qbl(b:Bd)(w:Wr):Int:=if QrR b w<0 then 4 else if Qm (cutA w.1) Qzp=false∨Qh9 (b.2.2.1.getD (QrR b w).toNat (dflt Qe)).2.1=false then 8 else if Qm w.2 Qbi=false then 20 else 0
def QA3:PSpec:=⟨[gBd,(⟨true,Qr⟩:Sig)],fun(b,w,_)=>(some (b.2.2.1.length≤4611686018427387904∧w.1.size≤140737488351232),I (Qbl b w),[])⟩
theorem Qzq:G0 103 QA3.spec:=by
 have hP:S0 _:=Qa QGr (Qa QvT (Qa QpQ (Qb (T:=tree))));have hT:=tabs hP Qc;refine QA3.gd hT hP Tryz.func103 fun(b:Bd) (w:Wr) hq=>?_
 obtain⟨hl,hw⟩:b.2.2.1.length≤4611686018427387904∧w.1.size≤140737488351232:=hq _ rfl;clear hq;have hin:=Qku (nmB (QdJ w.1)) b.2.2.1;obtain⟨bn,⟨un,ui,ur,uq,um⟩,bc,bw⟩:=b;obtain⟨wf,wt⟩:=w
 repeat' first|(apply Ea;conv=>whnf)|apply Eb|apply Ec<;>intro _|apply Ed<;>intro _|apply Ee<;>intro _|apply Ef hT hP
 all_goals(try dsimp only[Qf] at *)
 all_goals clear hT hP
 ·exact⟨rfl,hw⟩
 ·exact hl
 ·rename_i g1;refine .k [] [] _ rfl (Qd ?_);exact(if_pos g1:Qbl (bn,(un,ui,ur,uq,um),bc,bw) (wf,wt)=4).symm
 ·rename_i g1 g2;have g2:(!Qm (cutA wf) Qzp)=true:=g2;refine .k [] [] _ rfl (Qd ?_);show 8=Qbl (bn,(un,ui,ur,uq,um),bc,bw) (wf,wt);unfold Qbl QrR;rw[if_neg (show¬QbP (nmB (QdJ wf)) bc<0 from g1),if_pos (.inl (by simpa using g2))]
 ·rename_i g1 g2;show 0≤QbP (nmB (QdJ wf)) bc∧QbP (nmB (QdJ wf)) bc<(bc.length:Int);have g1:¬QbP (nmB (QdJ wf)) bc<0:=g1;have hin:QbP (nmB (QdJ wf)) bc=-1∨(0≤QbP (nmB (QdJ wf)) bc∧QbP (nmB (QdJ wf)) bc<bc.length):=hin;omega
 ·rename_i g1 g2 g3;have g3:(!Qh9 (bc.getD (QbP (nmB (QdJ wf)) bc).toNat (dflt Qe)).2.1)=true:=g3;refine .k [] [] _ rfl (Qd ?_);show 8=Qbl (bn,(un,ui,ur,uq,um),bc,bw) (wf,wt);unfold Qbl QrR;rw[if_neg (show¬QbP (nmB (QdJ wf)) bc<0 from g1),if_pos (.inr (by simpa using g3))]
 ·rename_i g1 g2 g3 g4;have g2:(!Qm (cutA wf) Qzp)=false:=g2;have g3:(!Qh9 (bc.getD (QbP (nmB (QdJ wf)) bc).toNat (dflt Qe)).2.1)=false:=g3;have g4:(!Qm wt Qbi)=true:=g4;refine .k [] [] _ rfl (Qd ?_);show 20=Qbl (bn,(un,ui,ur,uq,um),bc,bw) (wf,wt);unfold Qbl QrR;rw[if_neg (show¬QbP (nmB (QdJ wf)) bc<0 from g1),if_neg (show¬(Qm (cutA wf) Qzp=false∨Qh9 (bc.getD (QbP (nmB (QdJ wf)) bc).toNat (dflt Qe)).2.1=false) from fun h=>h.elim (fun h=>by rw[h] at g2;cases g2) (fun h=>by rw[h] at g3;cases g3)),if_pos (show Qm wt Qbi=false by simpa using g4)]
 ·rename_i g1 g2 g3 g4;have g2:(!Qm (cutA wf) Qzp)=false:=g2;have g3:(!Qh9 (bc.getD (QbP (nmB (QdJ wf)) bc).toNat (dflt Qe)).2.1)=false:=g3;have g4:(!Qm wt Qbi)=false:=g4;refine .k [] [] _ rfl (Qd ?_);show 0=Qbl (bn,(un,ui,ur,uq,um),bc,bw) (wf,wt);unfold Qbl QrR;rw[if_neg (show¬QbP (nmB (QdJ wf)) bc<0 from g1),if_neg (show¬(Qm (cutA wf) Qzp=false∨Qh9 (bc.getD (QbP (nmB (QdJ wf)) bc).toNat (dflt Qe)).2.1=false) from fun h=>h.elim (fun h=>by rw[h] at g2;cases g2) (fun h=>by rw[h] at g3;cases g3)),if_neg (show¬Qm wt Qbi=false from fun h=>by rw[h] at g4;cases g4)]
def QvX(pre:List Ins)(k:Nat)(prev:Int)(x:Ins):Int :=
 if x.1<0∨x.1>255 then 1 else if 0<k∧x.1≤prev then 9 else if QaF (bytesOf x.2.1)=false then 15 else if QcS x.2.2.1<0 then 8
 else if pre.any (QiR x)=true then 5 else if Qy x.2.2.2≠0 then Qy x.2.2.2 else if QiS x.2.2.2≠QcS x.2.2.1 then 3 else 0
def QrS(l:List Ins)(k:Nat):Int:=QvX (l.take k) k (l.getD (k-1) (dflt QaA)).1 (l.getD k (dflt QaA))
theorem QbM{x:Int}(h:(x != 0)=true):x≠0:=by simpa using h
theorem Qap{x:Int}(h:(x != 0)=false):x=0:=by simpa using h
theorem Qp9{pre:List Ins}{k:Nat}{pv xo xm:Int}{xs:ByteArray}{xc:List Cyc}(h1:¬xo<0)(h2:¬xo>255)(h3:¬(0<k∧xo≤pv))(h4:(!QaF (bytesOf xs))=false)(h5:¬QcS xm<0)(h6:pre.any (QiR (xo,xs,xm,xc))=false)(h7:(Qy xc != 0)=true):QvX pre k pv (xo,xs,xm,xc)=Qy xc:=by
 unfold QvX;rw[if_neg (show¬(xo<0∨xo>255) from fun h=>h.elim h1 h2),if_neg (show¬(0<k∧xo≤pv) from h3),if_neg (show¬QaF (bytesOf xs)=false from fun h=>by rw[h] at h4;cases h4),if_neg (show¬QcS xm<0 from h5),if_neg (show¬pre.any (QiR (xo,xs,xm,xc))=true from fun h=>by rw[h] at h6;cases h6),if_pos (show Qy xc≠0 by simpa using h7)]
theorem QnP{pre:List Ins}{k:Nat}{pv xo xm:Int}{xs:ByteArray}{xc:List Cyc}(h1:¬xo<0)(h2:¬xo>255)(h3:¬(0<k∧xo≤pv))(h4:(!QaF (bytesOf xs))=false)(h5:¬QcS xm<0)(h6:pre.any (QiR (xo,xs,xm,xc))=false)(h7:(Qy xc != 0)=false)(h8:(QiS xc != QcS xm)=true):QvX pre k pv (xo,xs,xm,xc)=3:=by
 unfold QvX;rw[if_neg (show¬(xo<0∨xo>255) from fun h=>h.elim h1 h2),if_neg (show¬(0<k∧xo≤pv) from h3),if_neg (show¬QaF (bytesOf xs)=false from fun h=>by rw[h] at h4;cases h4),if_neg (show¬QcS xm<0 from h5),if_neg (show¬pre.any (QiR (xo,xs,xm,xc))=true from fun h=>by rw[h] at h6;cases h6),if_neg (show¬Qy xc≠0 by simpa using h7),if_pos (show QiS xc≠QcS xm by simpa using h8)]
theorem QkL{pre:List Ins}{k:Nat}{pv xo xm:Int}{xs:ByteArray}{xc:List Cyc}(h1:¬xo<0)(h2:¬xo>255)(h3:¬(0<k∧xo≤pv))(h4:(!QaF (bytesOf xs))=false)(h5:¬QcS xm<0)(h6:pre.any (QiR (xo,xs,xm,xc))=false)(h7:(Qy xc != 0)=false)(h8:(QiS xc != QcS xm)=false):QvX pre k pv (xo,xs,xm,xc)=0:=by
 unfold QvX;rw[if_neg (show¬(xo<0∨xo>255) from fun h=>h.elim h1 h2),if_neg (show¬(0<k∧xo≤pv) from h3),if_neg (show¬QaF (bytesOf xs)=false from fun h=>by rw[h] at h4;cases h4),if_neg (show¬QcS xm<0 from h5),if_neg (show¬pre.any (QiR (xo,xs,xm,xc))=true from fun h=>by rw[h] at h6;cases h6),if_neg (show¬Qy xc≠0 by simpa using h7),if_neg (show¬QiS xc≠QcS xm by simpa using h8)]
def Qip(l:List Ins):Int:=Q6 (QrS l) (List.range l.length)
def QiT(c:Cpu):Int:=Q6 Qy [c.2.2.1,c.2.2.2.1,c.2.2.2.2]
def QdP(c:Cpu):Int:=if QaF (bytesOf c.1)=false then 15 else if c.2.1.length>256 then 2 else if Qip c.2.1≠0 then Qip c.2.1 else QiT c
theorem Qcx{n k:Nat}(h:k<n):(List.range n).getD k 0=k:=by
 rw[List.getD_eq_getElem?_getD,List.getElem?_range h];rfl
def QkM:PSpec:=⟨[Qx5],fun(c,_)=>(none,I (QdP c),[])⟩
theorem QvY:G0 101 QkM.spec:=by
 have hP:S0 _:=Qa QfI (Qa QyD (Qa QGi (Qa QrP (Qa Qzk (Qb (T:=tree))))));have hT:=tabs hP Qc;refine QkM.gd hT hP Tryz.func101 fun(c:Cpu) _=>?_
 obtain⟨cn,ci,cr,cq,cm⟩:=c
 repeat' first|(apply Ea;conv=>whnf)|apply Eb|apply Ec<;>intro _|apply Ed<;>intro _|apply Ee<;>intro _|apply Ef hT hP|apply Eg hT hP
 all_goals(try dsimp only[Qf] at *)
 ·rename_i g;have g:QaF (bytesOf cn)=false:=by simpa using g
  refine .k [] [] _ rfl (Qd ?_);exact(if_pos g:QdP (cn,ci,cr,cq,cm)=15).symm
 ·rename_i g g2;have g:QaF (bytesOf cn)=true:=by simpa using g
  have g2:(ci.length:Int)>256:=g2;refine .k [] [] _ rfl (Qd ?_);show 2=QdP (cn,ci,cr,cq,cm);unfold QdP;rw[if_neg (by rw[g];decide),if_pos (by show ci.length>256;omega)]
 rename_i g1 g2;have g1:QaF (bytesOf cn)=true:=by simpa using g1
 have hn:ci.length≤256:=by have g2:¬(ci.length:Int)>256:=g2;omega
 clear g2
 have hC:∀e:Int,e≠0→Qip ci=e→e=QdP (cn,ci,cr,cq,cm):=fun e h0 h1=>by
  unfold QdP;rw[if_neg (by rw[g1];decide),if_neg (by show¬ci.length>256;omega),if_pos (by rw[h1];exact h0)];exact h1.symm
 have hT2:Qip ci=0→QiT (cn,ci,cr,cq,cm)=QdP (cn,ci,cr,cq,cm):=fun h1=>by
  unfold QdP;rw[if_neg (by rw[g1];decide),if_neg (by show¬ci.length>256;omega),if_neg (by rw[h1];decide)]
 refine QH hT hP (A:=Unit) ci.length (fun i _=>St.mk (E1 ((.cell (.ptr 0 0))::E10 (E5 (E3 ((.cell (.ro QaA ci))::(I ci.length)::(I i)::E40 (E20 (E10 (E5 (E2 [])))))))))
  [some (.var [.imm (.string cn),.ro QaA ci,.ro Qs cr,.ro Qs cq,.ro Qs cm])])
  (fun k _=>Q6 (QrS ci) ((List.range ci.length).drop k)=Qip ci) () (Le.k [] [0] ?_) rfl fun k _ hk hi=>?_
 ·repeat' constructor
 have hE:∀e:Int,e≠0→QrS ci k=e→k<ci.length→e=QdP (cn,ci,cr,cq,cm):=fun e h0 h1 hk=>by
  refine hC e h0 ?_;have hr:k<(List.range ci.length).length:=by rw[List.length_range];exact hk
  have e1:=Qcx hk;rw[←hi,QaH 0 hr (by rw[e1,h1];exact h0),e1,h1]
 have hN:QrS ci k=0→k<ci.length→Q6 (QrS ci) ((List.range ci.length).drop (k+1))=Qip ci:=fun h1 hk=>by
  have hr:k<(List.range ci.length).length:=by rw[List.length_range];exact hk
  rw[←hi,Qa1 0 hr (by rw[Qcx hk,h1])]
 repeat' first|(apply Ea;conv=>whnf)|apply Eb|apply Ec<;>intro _|apply Ed<;>intro _|apply Ee<;>intro _|apply Ef hT hP|apply Eg hT hP
 all_goals(try dsimp only[Qf] at *)
 all_goals(have hp:(IntKind.i64.wrap ((k:Int)-1)).toNat=k-1:=by rw[w64 (by omega) (by omega)];omega)
 all_goals(generalize hx:ci.getD (k:Int).toNat (dflt QaA)=x at *;obtain⟨xo,xs,xm,xc⟩:=x)
 all_goals(have hx':ci.getD k (dflt QaA)=(xo,xs,xm,xc):=hx)
 all_goals(have hI:QrS ci k=QvX (ci.take k) k (ci.getD (k-1) (dflt QaA)).1 (xo,xs,xm,xc):=by unfold QrS;rw[hx'])
 all_goals(have hdt:(ci.take (k:Int).toNat).drop 0=ci.take k:=rfl)
 all_goals(rw[hI] at hE hN)
 all_goals(try simp only[hp] at *)
 all_goals(generalize(ci.getD (k-1) (dflt QaA)).1=pv at *)
 all_goals(try rw[hdt] at *)
 all_goals first
  |exact .k [] [] _ rfl (Qd (hE _ (QbM (x:=Qy xc) (by assumption)) (Qp9 (by assumption) (by assumption) (fun h=>by omega) (by assumption) (by assumption) (by assumption) (by assumption)) (by omega)))
  |exact .k [] [] _ rfl (Qd (hE _ (by decide) (QnP (by assumption) (by assumption) (fun h=>by omega) (by assumption) (by assumption) (by assumption) (by assumption) (by assumption)) (by omega)))
  |(refine .k [] [] _ rfl (Qd (hE _ ?_ ?_ (by omega)))
    ·first
      |decide
      |(have h0:(Qy xc != 0)=true:=by assumption
        simpa using h0)
    ·clear hT hP hE hN hC hT2 hi hx hx' hI;simp[QvX] at *
     try first
      |omega
      |(simp_all;done)
      |(simp_all;omega))
  |(show 0≤(k:Int)∧(k:Int)<(ci.length:Int)
    omega)
  |(show 0≤(k:Int)∧(k:Int)≤(ci.length:Int)
    omega)
  |(show 0≤IntKind.i64.wrap ((k:Int)-1)∧IntKind.i64.wrap ((k:Int)-1)<(ci.length:Int)
    rw[w64 (by omega) (by omega)];omega)
  |(refine⟨?_,trivial⟩
    show((ci.take k).drop 0).length≤4611686018427387904
    rw[List.drop_zero,List.length_take];omega)
  |(have h0:(Qy xc != 0)=false:=by assumption
    show xc.length≤1000;have h1:Qy xc=0:=by simpa using h0
    unfold Qy at h1;split at h1
    ·cases h1
    ·omega)
  |skip
 ·apply Ex () [] [0]
  ·repeat' constructor
  ·omega
  ·exact QL (by omega)
  exact hN (QkL (by assumption) (by assumption) (fun h=>by omega) (by assumption) (by assumption) (by assumption) (by assumption) (by assumption)) (by omega)
 ·apply Ex () [] [0]
  ·repeat' constructor
  ·omega
  ·exact QL (by omega)
  exact hN (QkL (by assumption) (by assumption) (fun h=>by omega) (by assumption) (by assumption) (by assumption) (by assumption) (by assumption)) (by omega)
 have h0:Qip ci=0:=by
  rw[←hi,List.drop_of_length_le (by rw[List.length_range];omega)];rfl
 have hQ:=hT2 h0;clear hE hN;refine QX 4 ?_
 repeat' first|(apply Ea;conv=>whnf)|apply Eb|apply Ec<;>intro _|apply Ed<;>intro _|apply Ee<;>intro _|apply Ef hT hP|apply Eg hT hP
 ·exact of_decide_eq_true rfl
 ·exact of_decide_eq_true rfl
 ·rename_i g1;have g1:(Qy cr != 0)=true:=g1;refine .k [] [] _ rfl (Qd ?_);show Qy cr=QdP (cn,ci,cr,cq,cm);rw[←hQ];exact(if_neg (QbM g1):QiT (cn,ci,cr,cq,cm)=Qy cr).symm
 ·exact of_decide_eq_true rfl
 ·exact of_decide_eq_true rfl
 ·rename_i g1 g2;have g1:(Qy cr != 0)=false:=g1;have g2:(Qy cq != 0)=true:=g2;refine .k [] [] _ rfl (Qd ?_);show Qy cq=QdP (cn,ci,cr,cq,cm);rw[←hQ];exact(((if_pos (Qap g1):QiT (cn,ci,cr,cq,cm)=Q6 Qy [cq,cm])).trans (if_neg (QbM g2))).symm
 ·exact of_decide_eq_true rfl
 ·exact of_decide_eq_true rfl
 ·rename_i g1 g2 g3;have g1:(Qy cr != 0)=false:=g1;have g2:(Qy cq != 0)=false:=g2;have g3:(Qy cm != 0)=true:=g3;refine .k [] [] _ rfl (Qd ?_);show Qy cm=QdP (cn,ci,cr,cq,cm);rw[←hQ];exact((((if_pos (Qap g1):QiT (cn,ci,cr,cq,cm)=Q6 Qy [cq,cm])).trans (if_pos (Qap g2):Q6 Qy [cq,cm]=Q6 Qy [cm])).trans (if_neg (QbM g3))).symm
 ·rename_i g1 g2 g3;have g1:(Qy cr != 0)=false:=g1;have g2:(Qy cq != 0)=false:=g2;have g3:(Qy cm != 0)=false:=g3;refine .k [] [] _ rfl (Qd ?_);show 0=QdP (cn,ci,cr,cq,cm);rw[←hQ];exact((((if_pos (Qap g1):QiT (cn,ci,cr,cq,cm)=Q6 Qy [cq,cm])).trans (if_pos (Qap g2):Q6 Qy [cq,cm]=Q6 Qy [cm])).trans (if_pos (Qap g3):Q6 Qy [cm]=Q6 Qy [])).symm
def Qbm(c d:Cv):Int:=if Qm d.1 c.1=true then 5 else if c.2.2.1<IntKind.i64.wrap (d.2.2.1+d.2.2.2.1)∧d.2.2.1<IntKind.i64.wrap (c.2.2.1+c.2.2.2.1) then 16 else 0
def Qbs(pre:List Cv)(c:Cv):Int:=if QV c≠0 then QV c else Q6 (Qbm c) pre
def Qbc(l:List Cv):Int:=Q6 (fun k=>Qbs (l.take k) (l.getD k (dflt Qe))) (List.range l.length)
def Qa2(b:Bd)(k:Nat):Int:=if Qbl b (b.2.2.2.getD k (dflt Qr))≠0 then Qbl b (b.2.2.2.getD k (dflt Qr)) else if (b.2.2.2.take k).any (QcT (b.2.2.2.getD k (dflt Qr)))=true then 5 else 0
def Qak(b:Bd):Int :=
 if QaF (bytesOf b.1)=false then 15 else if QdP b.2.1≠0 then QdP b.2.1 else if b.2.2.1.length>12 then 2 else if Qbc b.2.2.1≠0 then Qbc b.2.2.1
 else if b.2.2.2.length>40 then 2 else Q6 (Qa2 b) (List.range b.2.2.2.length)
end Go.Proofs.YtofgbclopbmlcaaGreat

