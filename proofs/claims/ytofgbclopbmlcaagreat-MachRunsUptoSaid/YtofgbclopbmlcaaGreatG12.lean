/- Part 12 of the proof: MchStep ChipIx ChipHas WireE TabChk2 BoardChk BoardErrL BoardChk2 TabErr BoardErr StateE MchChk Read Read2 ReadF Taken ReadW. No statement is handed in here; conditions: none. -/
import Derived.Test.YtofgbclopbmlcaaGreatG11
import Derived.Test.YtofgbclopbmlcaaGreatG8
import Derived.Test.YtofgbclopbmlcaaGreatG10
import Derived.Test.YtofgbclopbmlcaaGreatG5
import Derived.Test.YtofgbclopbmlcaaGreatG9
namespace Go.Proofs.YtofgbclopbmlcaaGreat
open Go.Fw
set_option linter.unusedVariables false
set_option linter.unusedSimpArgs false
set_option linter.constructorNameAsVariable false
set_option maxRecDepth 100000
theorem Qlw (c:Cpu) (k:Kor) (i:Bool):0≤(Qw c k i).2.2.1∧(Qw c k i).2.2.1 < 66000:=by
 have hs:=Qd2 c (QJ k.1,k.2) i
 have h1:(if k.2.1=-1 then Qa0 c (QJ k.1,k.2) i else (QJ k.1,k.2)).1=QJ k.1:=by
  split
  ·exact hs
  ·rfl
 unfold Qw
 dsimp only
 generalize (if k.2.1=-1 then Qa0 c (QJ k.1,k.2) i else (QJ k.1,k.2))=k1 at *
 have h2:r16 k1.1:=by rw [h1];exact Qhw _
 repeat' split
 all_goals first
  |exact QtU 0 h2
  |exact QtU (doF c k1.2.1 k1.2.2.1).2.1 h2
  |(show (0:Int)≤0∧(0:Int) < 66000;decide)
theorem QfP {f:Cv→Dv→Dv} {cs:List Cv} {ds:List Dv} {k:Nat} (h:cs.length=ds.length) (hk:k < cs.length):(List.zipWith f cs ds).getD k (dflt Qp)=f (cs.getD k (dflt Qh)) (ds.getD k (dflt Qp)):=by
 rw [List.getD_eq_getElem?_getD,List.getElem?_zipWith,List.getD_eq_getElem?_getD,List.getElem?_eq_getElem hk,List.getD_eq_getElem?_getD,List.getElem?_eq_getElem (show k < ds.length by omega)];rfl
theorem QoZ {f:Cv→Dv→Int} {cs:List Cv} {ds:List Dv} (h:cs.length=ds.length):(List.zipWith f cs ds).length=cs.length:=by
 rw [List.length_zipWith];omega
theorem Qfd {c:Cpu} {r:List Int} {o a:Int} {n:Bool} (h:Qck c (r,o,a,n)) (n':Bool):Qck c (r,o,a,n'):=h
def QGY (x:StX):Prop:=((x.l.length≤4611686018427387904∧bdP x.b.v)∧Qck x.b.v.2.1 x.m.v.2.1)∧∃ L,MOk L x.b.v x.m.v
def QDJ:QaV:=⟨StX,fun x=>[.agg (bdA x.b),.c (.ptr 0 0),.c (.ro QL x.l)],fun x=>[.var (mcA x.m),.arr Qp x.m.ds],QEr,
 fun ⟨⟨bn,un,ui,ur,uq,um,bc,bw⟩,⟨tm,r,op,at_,nmi,ds,bd,ba,bdt⟩,l⟩ =>
  (some (QGY ⟨⟨bn,un,ui,ur,uq,um,bc,bw⟩,⟨tm,r,op,at_,nmi,ds,bd,ba,bdt⟩,l⟩),.cell (.own 2),
    [some (.var [iv .i64 (Qz (bn,(un,ui,ur,uq,um),bc,bw) (tm,(r,op,at_,nmi),ds,bd,ba,bdt) l).1.1,.run .i64 9 (Qz (bn,(un,ui,ur,uq,um),bc,bw) (tm,(r,op,at_,nmi),ds,bd,ba,bdt) l).1.2.1.1,iv .i64 (Qz (bn,(un,ui,ur,uq,um),bc,bw) (tm,(r,op,at_,nmi),ds,bd,ba,bdt) l).1.2.1.2.1,iv .i64 (Qz (bn,(un,ui,ur,uq,um),bc,bw) (tm,(r,op,at_,nmi),ds,bd,ba,bdt) l).1.2.1.2.2.1,bv (Qz (bn,(un,ui,ur,uq,um),bc,bw) (tm,(r,op,at_,nmi),ds,bd,ba,bdt) l).1.2.1.2.2.2,.own 1,iv .i64 (Qz (bn,(un,ui,ur,uq,um),bc,bw) (tm,(r,op,at_,nmi),ds,bd,ba,bdt) l).1.2.2.2.1,iv .i64 (Qz (bn,(un,ui,ur,uq,um),bc,bw) (tm,(r,op,at_,nmi),ds,bd,ba,bdt) l).1.2.2.2.2.1,iv .i64 (Qz (bn,(un,ui,ur,uq,um),bc,bw) (tm,(r,op,at_,nmi),ds,bd,ba,bdt) l).1.2.2.2.2.2]),
    some (.arr Qp (Qz (bn,(un,ui,ur,uq,um),bc,bw) (tm,(r,op,at_,nmi),ds,bd,ba,bdt) l).1.2.2.1)],[.arr QL (Qz (bn,(un,ui,ur,uq,um),bc,bw) (tm,(r,op,at_,nmi),ds,bd,ba,bdt) l).2])⟩
theorem Qai {d:List Dv} {k:Nat} {x:Dv} (h:k < d.length):(d.set k x).getD k (dflt Qp)=x:=by
 rw [List.getD_eq_getElem?_getD,List.getElem?_set_self h];rfl
theorem QA6 {t:Int} {T:Kor} {a b i:Int} {d:List Dv} {o:List Inp} {p:Mach × List Inp} (h:p=((t,T,d,a,b,i),o)):[some (Blk.var [iv .i64 t,.run .i64 9 T.1,iv .i64 T.2.1,iv .i64 T.2.2.1,bv T.2.2.2,.own 1,iv .i64 a,iv .i64 b,iv .i64 i]),some (.arr Qp d),some (.arr QL o)] =
 [some (Blk.var [iv .i64 p.1.1,.run .i64 9 p.1.2.1.1,iv .i64 p.1.2.1.2.1,iv .i64 p.1.2.1.2.2.1,bv p.1.2.1.2.2.2,.own 1,iv .i64 p.1.2.2.2.1,iv .i64 p.1.2.2.2.2.1,iv .i64 p.1.2.2.2.2.2]),some (.arr Qp p.1.2.2.1),some (.arr QL p.2)]:=by
 subst h;rfl
set_option maxHeartbeats 8000000 in
theorem Qo0:Qi Tryz.prog 70 QDJ.spec:=by
 have hP:Qe Tryz.prog _:=Qa Qxe (Qa QA2 (Qa Qxf (Qa QDt (Qa QA3 (Qa QAO (Qa QvY (Qa QsS (Qc (T:=tree)))))))))
 have hT:=tabs hP Qf
 refine QDJ.good (fn:=Tryz.f70) hT hP Tryz.func70 (by kernel_rfl) rfl (fun _ _ _ h=>QtR h) fun (x:StX) hq=>?_
 obtain ⟨⟨bn,un,ui,ur,uq,um,bc,bw⟩,⟨tm,r,op,at_,nmi,ds,bd,ba,bdt⟩,l⟩:=x
 obtain ⟨⟨⟨hl,hbd⟩,htl⟩,L,hM⟩:QGY ⟨⟨bn,un,ui,ur,uq,um,bc,bw⟩,⟨tm,r,op,at_,nmi,ds,bd,ba,bdt⟩,l⟩:=hq _ rfl
 clear hq
 have hl:l.length≤4611686018427387904:=hl
 have hbd:bdP (bn,(un,ui,ur,uq,um),bc,bw):=hbd
 have htl:Qck (un,ui,ur,uq,um) (r,op,at_,nmi):=htl
 have hbl:bc.length*64≤140737488351232:=hbd.1.1
 have h2:bc.length=ds.length:=hM.l
 have h3:QqH L bc:=hM.c
 have h4:Qgy L ds:=hM.d
 have hL:=hM.L2
 have hL1:=hM.L1
 have hc:∀ c ∈ bc,cP c:=fun c h=>(h3 c h).1
 have hg:=Qd5 (t:=tm) h3 l (s:=(ds,nmi)) h4 h2
 have hgd:∀ d ∈ (QR bc tm l (ds,nmi)).1,dP d:=fun d h=>(hg.1 d h).dP hL
 have hgl:(QR bc tm l (ds,nmi)).1.length=ds.length:=hg.2
 repeat' first |(refine Go.mk ?_;conv=>whnf) |refine Ql.go ?_ ?_ |refine Qm.go (fun _=>?_) (fun _=>?_) |refine Br.dec (fun _=>?_) (fun _=>?_) |refine Br.go (fun _=>?_) (fun _=>?_) |refine Qd hT hP mixed ?_ |refine Qb hT hP ?_
 all_goals (try dsimp only [Qj] at *)
 ·exact ⟨h2,hbl,hc,fun d h=>(h4 d h).dP hL⟩
 ·exact ⟨⟨hl,by show bc.length≤_;omega⟩,L,hM⟩
 ·exact ⟨hbd,hgd⟩
 ·exact QtS (Qfd htl (QR bc tm l (ds,nmi)).2)
 ·refine ⟨⟨by show bc.length≤_;omega,?_,fun c h=>⟨(hc c h).1,(hc c h).2.1⟩⟩,by show bc.length=List.length _;rw [hgl];exact h2,hc,hgd⟩
  have:=Qlw (un,ui,ur,uq,um) (r,op,at_,(QR bc tm l (ds,nmi)).2) (Qax (bn,(un,ui,ur,uq,um),bc,bw) (QR bc tm l (ds,nmi)).1)
  exact ⟨by show _≤(Qw _ _ _).2.2.1;omega,by show (Qw _ _ _).2.2.1≤_;omega⟩
 ·exact Qlt (Qfd htl _) _
 have hac:=QdM (b:=(bn,(un,ui,ur,uq,um),bc,bw)) (ds:=(QR bc tm l (ds,nmi)).1) (x:=(Qw (un,ui,ur,uq,um) (r,op,at_,(QR bc tm l (ds,nmi)).2) (Qax (bn,(un,ui,ur,uq,um),bc,bw) (QR bc tm l (ds,nmi)).1)).2) hL1 h3 hg.1
 have hcy:Qz (bn,(un,ui,ur,uq,um),bc,bw) (tm,(r,op,at_,nmi),ds,bd,ba,bdt) l=((Qed tm,(QS (un,ui,ur,uq,um) (Qw (un,ui,ur,uq,um) (r,op,at_,(QR bc tm l (ds,nmi)).2) (Qax (bn,(un,ui,ur,uq,um),bc,bw) (QR bc tm l (ds,nmi)).1)).1 (Qc0 (bn,(un,ui,ur,uq,um),bc,bw) (QR bc tm l (ds,nmi)).1 (Qw (un,ui,ur,uq,um) (r,op,at_,(QR bc tm l (ds,nmi)).2) (Qax (bn,(un,ui,ur,uq,um),bc,bw) (QR bc tm l (ds,nmi)).1)).2)),List.zipWith Qn bc (Qbo (bn,(un,ui,ur,uq,um),bc,bw) (QR bc tm l (ds,nmi)).1 (Qw (un,ui,ur,uq,um) (r,op,at_,(QR bc tm l (ds,nmi)).2) (Qax (bn,(un,ui,ur,uq,um),bc,bw) (QR bc tm l (ds,nmi)).1)).2),(Qw (un,ui,ur,uq,um) (r,op,at_,(QR bc tm l (ds,nmi)).2) (Qax (bn,(un,ui,ur,uq,um),bc,bw) (QR bc tm l (ds,nmi)).1)).2.1,(Qw (un,ui,ur,uq,um) (r,op,at_,(QR bc tm l (ds,nmi)).2) (Qax (bn,(un,ui,ur,uq,um),bc,bw) (QR bc tm l (ds,nmi)).1)).2.2.1,(Qc0 (bn,(un,ui,ur,uq,um),bc,bw) (QR bc tm l (ds,nmi)).1 (Qw (un,ui,ur,uq,um) (r,op,at_,(QR bc tm l (ds,nmi)).2) (Qax (bn,(un,ui,ur,uq,um),bc,bw) (QR bc tm l (ds,nmi)).1)).2)),Qgd tm bc (List.zipWith Qn bc (Qbo (bn,(un,ui,ur,uq,um),bc,bw) (QR bc tm l (ds,nmi)).1 (Qw (un,ui,ur,uq,um) (r,op,at_,(QR bc tm l (ds,nmi)).2) (Qax (bn,(un,ui,ur,uq,um),bc,bw) (QR bc tm l (ds,nmi)).1)).2)) (List.zipWith Qbi bc ds)):=rfl
 have hDl:(Qbo (bn,(un,ui,ur,uq,um),bc,bw) (QR bc tm l (ds,nmi)).1 (Qw (un,ui,ur,uq,um) (r,op,at_,(QR bc tm l (ds,nmi)).2) (Qax (bn,(un,ui,ur,uq,um),bc,bw) (QR bc tm l (ds,nmi)).1)).2).length=bc.length:=by rw [hac.2,hgl];exact h2.symm
 have hDd:∀ d ∈ (Qbo (bn,(un,ui,ur,uq,um),bc,bw) (QR bc tm l (ds,nmi)).1 (Qw (un,ui,ur,uq,um) (r,op,at_,(QR bc tm l (ds,nmi)).2) (Qax (bn,(un,ui,ur,uq,um),bc,bw) (QR bc tm l (ds,nmi)).1)).2),dP d:=fun d h=>(hac.1 d h).dP hL
 have hTd:∀ d ∈ List.zipWith Qn bc (Qbo (bn,(un,ui,ur,uq,um),bc,bw) (QR bc tm l (ds,nmi)).1 (Qw (un,ui,ur,uq,um) (r,op,at_,(QR bc tm l (ds,nmi)).2) (Qax (bn,(un,ui,ur,uq,um),bc,bw) (QR bc tm l (ds,nmi)).1)).2),dP d:=fun d h=>(Qbv h3 hac.1 d h).dP hL
 generalize hT0:(QS (un,ui,ur,uq,um) (Qw (un,ui,ur,uq,um) (r,op,at_,(QR bc tm l (ds,nmi)).2) (Qax (bn,(un,ui,ur,uq,um),bc,bw) (QR bc tm l (ds,nmi)).1)).1 (Qc0 (bn,(un,ui,ur,uq,um),bc,bw) (QR bc tm l (ds,nmi)).1 (Qw (un,ui,ur,uq,um) (r,op,at_,(QR bc tm l (ds,nmi)).2) (Qax (bn,(un,ui,ur,uq,um),bc,bw) (QR bc tm l (ds,nmi)).1)).2))=T0 at *
 generalize hI0:(Qc0 (bn,(un,ui,ur,uq,um),bc,bw) (QR bc tm l (ds,nmi)).1 (Qw (un,ui,ur,uq,um) (r,op,at_,(QR bc tm l (ds,nmi)).2) (Qax (bn,(un,ui,ur,uq,um),bc,bw) (QR bc tm l (ds,nmi)).1)).2)=I0 at *
 generalize hA0:(Qbo (bn,(un,ui,ur,uq,um),bc,bw) (QR bc tm l (ds,nmi)).1 (Qw (un,ui,ur,uq,um) (r,op,at_,(QR bc tm l (ds,nmi)).2) (Qax (bn,(un,ui,ur,uq,um),bc,bw) (QR bc tm l (ds,nmi)).1)).2)=D0 at *
 generalize (Qw (un,ui,ur,uq,um) (r,op,at_,(QR bc tm l (ds,nmi)).2) (Qax (bn,(un,ui,ur,uq,um),bc,bw) (QR bc tm l (ds,nmi)).1))=A0 at *
 generalize hN0:List.zipWith Qbi bc ds=N0 at *
 have hNl:N0.length=bc.length:=by rw [← hN0];exact QoZ h2
 refine QO hT hP (A:=List Dv × List Inp) bc.length (fun i s=>St.mk (E1 ((.cell (.ptr 0 0)) :: E5 ((.cell (.own 2)) :: (.cell (.own 3)) :: E40 (E10 (E2 ((.cell (.ro Qh bc)) :: (I bc.length) :: (I i) :: E40 (E10 (E5 (E2 [])))))))))
  [some (.var [iv .i64 tm,.run .i64 9 T0.1,iv .i64 T0.2.1,iv .i64 T0.2.2.1,bv T0.2.2.2,.own 1,iv .i64 A0.2.1,iv .i64 A0.2.2.1,iv .i64 I0]),some (.arr Qp s.1),some (.arr (.int .i64) N0),some (.arr QL s.2)])
  (fun k s=>s.1=Qdr Qn bc D0 k∧s.2=newK tm bc (List.zipWith Qn bc D0) N0 k) (D0,[]) (.trans (Le.nil 8 QL rfl) (Le.mk [] [0,1,3,4] R R ?_ ?_)) ⟨(Qf4 _ _ _).symm,rfl⟩ fun k s hk hi=>?_
 ·exact rfl
 ·repeat' first |exact trivial |exact ⟨rfl,rfl⟩ |refine And.intro ?_ ?_
 obtain ⟨d,o⟩:=s
 obtain ⟨hi1,hi2⟩:=hi
 have hi1:d=Qdr Qn bc D0 k:=hi1
 have hi2:o=newK tm bc (List.zipWith Qn bc D0) N0 k:=hi2
 have hdl:d.length=bc.length:=by rw [hi1,QbP hDl.symm hk];exact hDl
 have hdg:k < bc.length→d.getD k (dflt Qp)=D0.getD k (dflt Qp):=fun h=>by rw [hi1];exact QbQ hDl.symm h _
 have hds:k < bc.length→d.set k (Qn (bc.getD k (dflt Qh)) (D0.getD k (dflt Qp)))=Qdr Qn bc D0 (k+1):=fun h=>by rw [hi1];exact Qbl hDl.symm h _ _
 have hzl:bc.length=(List.zipWith Qn bc D0).length:=by rw [List.length_zipWith];omega
 have hzg:k < bc.length→(List.zipWith Qn bc D0).getD k (dflt Qp)=Qn (bc.getD k (dflt Qh)) (D0.getD k (dflt Qp)):=fun h=>QfP hDl.symm h
 have hns:k < bc.length→newK tm bc (List.zipWith Qn bc D0) N0 (k+1)=o++(if Qbi (bc.getD k (dflt Qh)) (Qn (bc.getD k (dflt Qh)) (D0.getD k (dflt Qp)))=N0.getD k 0 then [] else [(tm,(bc.getD k (dflt Qh)).1,Qbi (bc.getD k (dflt Qh)) (Qn (bc.getD k (dflt Qh)) (D0.getD k (dflt Qp))))]):=fun h=>by
  rw [QcW hzl hNl.symm h (dflt Qh) (dflt Qp),hzg h,hi2]
 have hol:o.length≤bc.length:=by
  rw [hi2]
  refine Nat.le_trans (Qbm _ _ _ _) ?_
  rw [List.length_take];omega
 repeat' first |(refine Go.mk ?_;conv=>whnf) |refine Ql.go ?_ ?_ |refine Qm.go (fun _=>?_) (fun _=>?_) |refine Br.dec (fun _=>?_) (fun _=>?_) |refine Br.go (fun _=>?_) (fun _=>?_) |refine Qd hT hP mixed ?_ |refine Qb hT hP ?_
 all_goals (try dsimp only [Qj] at *)
 ·have g:(k:Int) < (bc.length:Int):=by assumption
  show 0≤(k:Int)∧(k:Int) < (bc.length:Int)
  omega
 ·have g:(k:Int) < (bc.length:Int):=by assumption
  show 0≤(k:Int)∧(k:Int) < (d.length:Int)
  omega
 ·have g:(k:Int) < (bc.length:Int):=by assumption
  show k < d.length
  omega
 ·have g:(k:Int) < (bc.length:Int):=by assumption
  refine ⟨hc _ (QQ (dflt Qh) (show k < bc.length by omega)),?_⟩
  show dP (d.getD k (dflt Qp))
  rw [hdg (by omega)]
  exact hDd _ (QQ (dflt Qp) (show k < D0.length by omega))
 ·have g:(k:Int) < (bc.length:Int):=by assumption
  show 0≤(k:Int)∧(k:Int) < (d.length:Int)
  omega
 ·have g:(k:Int) < (bc.length:Int):=by assumption
  show k < d.length
  omega
 ·have g:(k:Int) < (bc.length:Int):=by assumption
  show 0≤(k:Int)∧(k:Int) < (List.length (d.set _ _):Int)
  rw [List.length_set];omega
 ·have g:(k:Int) < (bc.length:Int):=by assumption
  show k < List.length (d.set _ _)
  rw [List.length_set];omega
 ·have g:(k:Int) < (bc.length:Int):=by assumption
  refine ⟨hc _ (QQ (dflt Qh) (show k < bc.length by omega)),?_⟩
  show dP ((d.set k (Qn (bc.getD k (dflt Qh)) (d.getD k (dflt Qp)))).getD k (dflt Qp))
  rw [Qai (show k < d.length by omega),hdg (by omega),← hzg (by omega)]
  exact hTd _ (QQ (dflt Qp) (show k < (List.zipWith Qn bc D0).length by omega))
 ·have g:(k:Int) < (bc.length:Int):=by assumption
  show 0≤(k:Int)∧(k:Int) < (N0.length:Int)
  omega
 ·have g:(k:Int) < (bc.length:Int):=by assumption
  show k < N0.length
  omega
 ·have g:(k:Int) < (bc.length:Int):=by assumption
  show (o.length+1)*32≤140737488355328
  omega
 ·rename_i g g2
  have g:(k:Int) < (bc.length:Int):=g
  have e1:(d.set k (Qn (bc.getD k (dflt Qh)) (d.getD k (dflt Qp)))).getD k (dflt Qp)=Qn (bc.getD k (dflt Qh)) (D0.getD k (dflt Qp)):=by rw [Qai (show k < d.length by omega),hdg (by omega)]
  have g2:(Qbi (bc.getD k (dflt Qh)) ((d.set k (Qn (bc.getD k (dflt Qh)) (d.getD k (dflt Qp)))).getD k (dflt Qp)) != N0.getD k 0)=true:=g2
  rw [e1] at g2
  have g3:¬ Qbi (bc.getD k (dflt Qh)) (Qn (bc.getD k (dflt Qh)) (D0.getD k (dflt Qp)))=N0.getD k 0:=by simpa using g2
  have hns:=hns (by omega)
  rw [if_neg g3] at hns
  have hds:=hds (by omega)
  rw [← hdg (by omega)] at hds
  apply Exists.intro
  apply Exists.intro (_,_)
  refine And.intro (And.intro ?lt158 (And.intro ?ei158 ?inv158)) (Le.mk [] [0,1,2,8] R R ?hh158 ?ht158)
  case hh158=>exact rfl
  case ht158=>repeat' first |exact trivial |exact ⟨rfl,rfl⟩ |refine And.intro ?_ ?_
  case lt158=>omega
  case ei158=>exact QW (by omega)
  refine ⟨hds,?_⟩
  rw [hns,← e1]
  try rfl
 ·rename_i g g2
  have g:(k:Int) < (bc.length:Int):=g
  have e1:(d.set k (Qn (bc.getD k (dflt Qh)) (d.getD k (dflt Qp)))).getD k (dflt Qp)=Qn (bc.getD k (dflt Qh)) (D0.getD k (dflt Qp)):=by rw [Qai (show k < d.length by omega),hdg (by omega)]
  have g2:(Qbi (bc.getD k (dflt Qh)) ((d.set k (Qn (bc.getD k (dflt Qh)) (d.getD k (dflt Qp)))).getD k (dflt Qp)) != N0.getD k 0)=false:=g2
  rw [e1] at g2
  have g3:Qbi (bc.getD k (dflt Qh)) (Qn (bc.getD k (dflt Qh)) (D0.getD k (dflt Qp)))=N0.getD k 0:=by simpa using g2
  have hns:=hns (by omega)
  rw [if_pos g3,List.append_nil] at hns
  have hds:=hds (by omega)
  rw [← hdg (by omega)] at hds
  apply Exists.intro
  apply Exists.intro (_,o)
  refine And.intro (And.intro ?lt178 (And.intro ?ei178 ?inv178)) (Le.mk [] [0,1,2,3] R R ?hh178 ?ht178)
  case hh178=>exact rfl
  case ht178=>repeat' first |exact trivial |exact ⟨rfl,rfl⟩ |refine And.intro ?_ ?_
  case lt178=>omega
  case ei178=>exact QW (by omega)
  exact ⟨hds,hns.symm⟩
 ·rename_i g
  have g:¬ (k:Int) < (bc.length:Int):=g
  have e1:d=List.zipWith Qn bc D0:=by rw [hi1,Qbz hDl.symm (by omega)]
  have e2:o=Qgd tm bc (List.zipWith Qn bc D0) N0:=by
   rw [hi2];unfold newK
   rw [List.take_of_length_le (by omega),List.take_of_length_le (by omega),List.take_of_length_le (by omega)]
  have e3:IntKind.i64.wrap (imax (-1) (imin tm 1099511627775)+1)=Qed tm:=by
   rw [Q9,QbZ,w64 (by omega) (by omega)];rfl
  exact .mk [] [0,1,3] _ R R R R R (QA6 (p:=Qz (bn,(un,ui,ur,uq,um),bc,bw) (tm,(r,op,at_,nmi),ds,bd,ba,bdt) l) (by rw [hcy,e1,e2,e3])) rfl
def nmB (s:ByteArray) (c:Cv):Bool:=Qs c.1 s
def QA7:List V1→List Blk→Option (Cv × ByteArray):=fun a b=>match a,b with
 | [.agg [.imm (.string en),.imm (.int .i64 ek),.imm (.int .i64 eb),.imm (.int .i64 es),.ro (.int .u8) ed],.c (.ptr 0 0)],[.var [.imm (.string s)]]=>some ((en,ek,eb,es,ed),s)
 |_,_=>none
theorem Qxg {a:List V1} {b:List Blk} {x:Cv × ByteArray} (h:QA7 a b=some x):a=[.agg [.imm (.string x.1.1),iv .i64 x.1.2.1,iv .i64 x.1.2.2.1,iv .i64 x.1.2.2.2.1,.ro (.int .u8) x.1.2.2.2.2],.c (.ptr 0 0)]∧b=[.var [.imm (.string x.2)]]:=by
 unfold QA7 at h
 split at h
 ·injection h with h;subst h;exact ⟨rfl,rfl⟩
 ·cases h
def QGZ:QaV:=⟨Cv × ByteArray,fun x=>[.agg [.imm (.string x.1.1),iv .i64 x.1.2.1,iv .i64 x.1.2.2.1,iv .i64 x.1.2.2.2.1,.ro (.int .u8) x.1.2.2.2.2],.c (.ptr 0 0)],fun x=>[.var [.imm (.string x.2)]],QA7,
 fun x=>(some ((fun _=>True) x.2),.cell (bv (nmB x.2 x.1)),[some (.var [.imm (.string x.2)])],[])⟩
theorem QDK:Qi Tryz.prog 241 QGZ.spec:=by
 have hP:Qe Tryz.prog _:=(Qc (T:=tree))
 have hT:=tabs hP Qf
 refine QGZ.good (fn:=Tryz.f241) hT hP Tryz.func241 (by kernel_rfl) rfl (fun _ _ _ h=>Qxg h) fun (x:Cv × ByteArray) hq=>?_
 have hq:(fun _=>True) x.2:=hq _ rfl
 repeat' first |(refine Go.mk ?_;conv=>whnf) |refine Ql.go ?_ ?_ |refine Qm.go (fun _=>?_) (fun _=>?_) |refine Br.dec (fun _=>?_) (fun _=>?_) |refine Br.go (fun _=>?_) (fun _=>?_) |refine Qd hT hP mixed ?_ |refine Qb hT hP ?_
 all_goals exact .mk [] [0] _ R R R R R R R
structure biX where
 l:List Cv
 d:ByteArray
def QGd:List V1→List Blk→Option biX:=fun a b=>match a,b with
 | [.c (.ro (.pair .str (.pair (.int .i64) (.pair (.int .i64) (.pair (.int .i64) (.sl (.int .u8)))))) l),.c (.fn 241 [0])],[.var [.imm (.string s)]]=>some ⟨l,s⟩
 |_,_=>none
theorem QA8 {a:List V1} {b:List Blk} {x:biX} (h:QGd a b=some x):a=[.c (.ro Qh x.l),.c (.fn 241 [0])]∧b=[.var [.imm (.string x.d)]]:=by
 unfold QGd at h
 split at h
 ·injection h with h;subst h;exact ⟨rfl,rfl⟩
 ·cases h
def QG0:QaV:=⟨biX,fun x=>[.c (.ro Qh x.l),.c (.fn 241 [0])],fun x=>[.var [.imm (.string x.d)]],QGd,
 fun x=>(some (x.l.length≤4611686018427387904∧(fun _=>True) x.d),I (Qby (nmB x.d) x.l),[some (.var [.imm (.string x.d)])],[])⟩
theorem QDL:Qi Tryz.prog 98 QG0.spec:=by
 have hP:Qe Tryz.prog _:=Qa QDK (Qc (T:=tree))
 have hT:=tabs hP Qf
 refine QG0.good (fn:=Tryz.f98) hT hP Tryz.func98 (by kernel_rfl) rfl (fun _ _ _ h=>QA8 h) fun (x:biX) hq=>?_
 obtain ⟨hl,hq⟩:x.l.length≤4611686018427387904∧(fun _=>True) x.d:=hq _ rfl
 obtain ⟨l,d⟩:=x
 have hl:l.length≤4611686018427387904:=hl
 repeat' first |(refine Go.mk ?_;conv=>whnf) |refine Ql.go ?_ ?_ |refine Qm.go (fun _=>?_) (fun _=>?_) |refine Br.dec (fun _=>?_) (fun _=>?_) |refine Br.go (fun _=>?_) (fun _=>?_) |refine Qd hT hP mixed ?_ |refine Qb hT hP ?_
 refine QO hT hP (A:=Unit) l.length (fun i _=>St.mk ((.cell (.ro Qh l)) :: (.cell (.fn 241 [0])) :: E5 ((I l.length) :: (I i) :: E10 [])) [some (.var [.imm (.string d)])])
  (fun k _=>Qdm (nmB d) (l.drop k) k=Qby (nmB d) l) () (Le.mk [] [0] R R R ?_) rfl fun k _ hk hi=>?_
 ·repeat' first |exact trivial |exact ⟨rfl,rfl⟩ |refine And.intro ?_ ?_
 repeat' first |(refine Go.mk ?_;conv=>whnf) |refine Ql.go ?_ ?_ |refine Qm.go (fun _=>?_) (fun _=>?_) |refine Br.dec (fun _=>?_) (fun _=>?_) |refine Br.go (fun _=>?_) (fun _=>?_) |refine Qd hT hP mixed ?_ |refine Qb hT hP ?_
 all_goals clear hT hP
 ·rename_i g1
  have g1:(k:Int) < (l.length:Int):=g1
  show 0≤(k:Int)∧(k:Int) < (l.length:Int)
  omega
 ·first |exact hq |exact trivial
 ·rename_i g1 g2
  have g1:(k:Int) < (l.length:Int):=g1
  exact .mk [] [0] _ R R R R R R (Qg (Qdg (dflt Qh) (by omega) g2 hi))
 ·rename_i g1 g2
  have g1:(k:Int) < (l.length:Int):=g1
  have hp:¬ nmB d (l.getD k (dflt Qh))=true:=by
   have g2:nmB d (l.getD k (dflt Qh))=false:=g2
   rw [g2];decide
  apply Exists.intro
  apply Exists.intro ()
  refine And.intro (And.intro ?lt67 (And.intro ?ei67 ?inv67)) (Le.mk [] [0] R R ?hh67 ?ht67)
  case hh67=>exact rfl
  case ht67=>repeat' first |exact trivial |exact ⟨rfl,rfl⟩ |refine And.intro ?_ ?_
  case lt67=>omega
  case ei67=>exact QW (by omega)
  exact Qa9 (dflt Qh) (by omega) hp hi
 ·rename_i g1
  have g1:¬ (k:Int) < (l.length:Int):=g1
  exact .mk [] [0] _ R R R R R R (Qg (Qcu (by omega) hi))
def Qua:Qk:=⟨[gBd,Qv4],fun (b,s,_)=>(some (b.2.2.1.length≤4611686018427387904),I (Qby (nmB s) b.2.2.1),[])⟩
theorem Qub:Qi Tryz.prog 194 Qua.spec:=by
 have hP:Qe Tryz.prog _:=Qa QDL (Qc (T:=tree))
 have hT:=tabs hP Qf
 refine Qua.good (fn:=Tryz.f194) hT hP Tryz.func194 (by kernel_rfl) rfl fun (b:Bd) (s:ByteArray) hq=>?_
 have hl:b.2.2.1.length≤4611686018427387904:=hq _ rfl
 obtain ⟨bn,⟨un,ui,ur,uq,um⟩,bc,bw⟩:=b
 clear hq
 repeat' first |(refine Go.mk ?_;conv=>whnf) |refine Ql.go ?_ ?_ |refine Qm.go (fun _=>?_) (fun _=>?_) |refine Br.dec (fun _=>?_) (fun _=>?_) |refine Br.go (fun _=>?_) (fun _=>?_) |refine Qd hT hP mixed ?_ |refine Qb hT hP ?_
 all_goals first
  |exact ⟨hl,trivial⟩
  |exact .mk [] [] _ R R R R R R R
  |skip
def inB (x:Inp) (c:Cv):Bool:=Qs c.1 x.2.1
def QA9:List V1→List Blk→Option (Cv × Inp):=fun a b=>match a,b with
 | [.agg [.imm (.string en),.imm (.int .i64 ek),.imm (.int .i64 eb),.imm (.int .i64 es),.ro (.int .u8) ed],.c (.ptr 0 0)],[.var [.imm (.int .i64 ia),.imm (.string ic),.imm (.int .i64 n)]]=>some ((en,ek,eb,es,ed),(ia,ic,n))
 |_,_=>none
theorem Qxh {a:List V1} {b:List Blk} {x:Cv × Inp} (h:QA9 a b=some x):a=[.agg [.imm (.string x.1.1),iv .i64 x.1.2.1,iv .i64 x.1.2.2.1,iv .i64 x.1.2.2.2.1,.ro (.int .u8) x.1.2.2.2.2],.c (.ptr 0 0)]∧b=[.var [iv .i64 x.2.1,.imm (.string x.2.2.1),iv .i64 x.2.2.2]]:=by
 unfold QA9 at h
 split at h
 ·injection h with h;subst h;exact ⟨rfl,rfl⟩
 ·cases h
def QG1:QaV:=⟨Cv × Inp,fun x=>[.agg [.imm (.string x.1.1),iv .i64 x.1.2.1,iv .i64 x.1.2.2.1,iv .i64 x.1.2.2.2.1,.ro (.int .u8) x.1.2.2.2.2],.c (.ptr 0 0)],fun x=>[.var [iv .i64 x.2.1,.imm (.string x.2.2.1),iv .i64 x.2.2.2]],QA9,
 fun x=>(some ((fun _=>True) x.2),.cell (bv (inB x.2 x.1)),[some (.var [iv .i64 x.2.1,.imm (.string x.2.2.1),iv .i64 x.2.2.2])],[])⟩
theorem QDM:Qi Tryz.prog 54 QG1.spec:=by
 have hP:Qe Tryz.prog _:=(Qc (T:=tree))
 have hT:=tabs hP Qf
 refine QG1.good (fn:=Tryz.f54) hT hP Tryz.func54 (by kernel_rfl) rfl (fun _ _ _ h=>Qxh h) fun (x:Cv × Inp) hq=>?_
 have hq:(fun _=>True) x.2:=hq _ rfl
 repeat' first |(refine Go.mk ?_;conv=>whnf) |refine Ql.go ?_ ?_ |refine Qm.go (fun _=>?_) (fun _=>?_) |refine Br.dec (fun _=>?_) (fun _=>?_) |refine Br.go (fun _=>?_) (fun _=>?_) |refine Qd hT hP mixed ?_ |refine Qb hT hP ?_
 all_goals exact .mk [] [0] _ R R R R R R R
structure miX where
 l:List Cv
 d:Inp
def QEu:List V1→List Blk→Option miX:=fun a b=>match a,b with
 | [.c (.ro (.pair .str (.pair (.int .i64) (.pair (.int .i64) (.pair (.int .i64) (.sl (.int .u8)))))) l),.c (.fn 54 [0])],[.var [.imm (.int .i64 ia),.imm (.string ic),.imm (.int .i64 n)]]=>some ⟨l,(ia,ic,n)⟩
 |_,_=>none
theorem Quc {a:List V1} {b:List Blk} {x:miX} (h:QEu a b=some x):a=[.c (.ro Qh x.l),.c (.fn 54 [0])]∧b=[.var [iv .i64 x.d.1,.imm (.string x.d.2.1),iv .i64 x.d.2.2]]:=by
 unfold QEu at h
 split at h
 ·injection h with h;subst h;exact ⟨rfl,rfl⟩
 ·cases h
def QG2:QaV:=⟨miX,fun x=>[.c (.ro Qh x.l),.c (.fn 54 [0])],fun x=>[.var [iv .i64 x.d.1,.imm (.string x.d.2.1),iv .i64 x.d.2.2]],QEu,
 fun x=>(some (x.l.length≤4611686018427387904∧(fun _=>True) x.d),I (Qby (inB x.d) x.l),[some (.var [iv .i64 x.d.1,.imm (.string x.d.2.1),iv .i64 x.d.2.2])],[])⟩
theorem QDN:Qi Tryz.prog 98 QG2.spec:=by
 have hP:Qe Tryz.prog _:=Qa QDM (Qc (T:=tree))
 have hT:=tabs hP Qf
 refine QG2.good (fn:=Tryz.f98) hT hP Tryz.func98 (by kernel_rfl) rfl (fun _ _ _ h=>Quc h) fun (x:miX) hq=>?_
 obtain ⟨hl,hq⟩:x.l.length≤4611686018427387904∧(fun _=>True) x.d:=hq _ rfl
 obtain ⟨l,d⟩:=x
 have hl:l.length≤4611686018427387904:=hl
 repeat' first |(refine Go.mk ?_;conv=>whnf) |refine Ql.go ?_ ?_ |refine Qm.go (fun _=>?_) (fun _=>?_) |refine Br.dec (fun _=>?_) (fun _=>?_) |refine Br.go (fun _=>?_) (fun _=>?_) |refine Qd hT hP mixed ?_ |refine Qb hT hP ?_
 refine QO hT hP (A:=Unit) l.length (fun i _=>St.mk ((.cell (.ro Qh l)) :: (.cell (.fn 54 [0])) :: E5 ((I l.length) :: (I i) :: E10 [])) [some (.var [iv .i64 d.1,.imm (.string d.2.1),iv .i64 d.2.2])])
  (fun k _=>Qdm (inB d) (l.drop k) k=Qby (inB d) l) () (Le.mk [] [0] R R R ?_) rfl fun k _ hk hi=>?_
 ·repeat' first |exact trivial |exact ⟨rfl,rfl⟩ |refine And.intro ?_ ?_
 repeat' first |(refine Go.mk ?_;conv=>whnf) |refine Ql.go ?_ ?_ |refine Qm.go (fun _=>?_) (fun _=>?_) |refine Br.dec (fun _=>?_) (fun _=>?_) |refine Br.go (fun _=>?_) (fun _=>?_) |refine Qd hT hP mixed ?_ |refine Qb hT hP ?_
 all_goals clear hT hP
 ·rename_i g1
  have g1:(k:Int) < (l.length:Int):=g1
  show 0≤(k:Int)∧(k:Int) < (l.length:Int)
  omega
 ·first |exact hq |exact trivial
 ·rename_i g1 g2
  have g1:(k:Int) < (l.length:Int):=g1
  exact .mk [] [0] _ R R R R R R (Qg (Qdg (dflt Qh) (by omega) g2 hi))
 ·rename_i g1 g2
  have g1:(k:Int) < (l.length:Int):=g1
  have hp:¬ inB d (l.getD k (dflt Qh))=true:=by
   have g2:inB d (l.getD k (dflt Qh))=false:=g2
   rw [g2];decide
  apply Exists.intro
  apply Exists.intro ()
  refine And.intro (And.intro ?lt68 (And.intro ?ei68 ?inv68)) (Le.mk [] [0] R R ?hh68 ?ht68)
  case hh68=>exact rfl
  case ht68=>repeat' first |exact trivial |exact ⟨rfl,rfl⟩ |refine And.intro ?_ ?_
  case lt68=>omega
  case ei68=>exact QW (by omega)
  exact Qa9 (dflt Qh) (by omega) hp hi
 ·rename_i g1
  have g1:¬ (k:Int) < (l.length:Int):=g1
  exact .mk [] [0] _ R R R R R R (Qg (Qcu (by omega) hi))
def QG3:QaV:=⟨miX,fun x=>[.c (.ro Qh x.l),.c (.fn 54 [0])],fun x=>[.var [iv .i64 x.d.1,.imm (.string x.d.2.1),iv .i64 x.d.2.2]],QEu,
 fun x=>(some (x.l.length≤4611686018427387904∧(fun _=>True) x.d),.cell (bv (x.l.any (inB x.d))),[some (.var [iv .i64 x.d.1,.imm (.string x.d.2.1),iv .i64 x.d.2.2])],[])⟩
theorem QDO:Qi Tryz.prog 49 QG3.spec:=by
 have hP:Qe Tryz.prog _:=Qa QDN (Qc (T:=tree))
 have hT:=tabs hP Qf
 refine QG3.good (fn:=Tryz.f49) hT hP Tryz.func49 (by kernel_rfl) rfl (fun _ _ _ h=>Quc h) fun (x:miX) hq=>?_
 have hq:x.l.length≤4611686018427387904∧(fun _=>True) x.d:=hq _ rfl
 obtain ⟨l,d⟩:=x
 repeat' first |(refine Go.mk ?_;conv=>whnf) |refine Ql.go ?_ ?_ |refine Qm.go (fun _=>?_) (fun _=>?_) |refine Br.dec (fun _=>?_) (fun _=>?_) |refine Br.go (fun _=>?_) (fun _=>?_) |refine Qd hT hP mixed ?_ |refine Qb hT hP ?_
 all_goals clear hT hP
 ·first |exact hq |exact trivial
 ·exact .mk [] [0] _ R R R R R R (Qo (Qhp (inB d) l))
def Qxj:ByteArray:=⟨#[105,114,113]⟩
def Qqs (b:Bd) (w:Wr):Int:=Qby (nmB (Qdn w.1)) b.2.2.1
def Qa3 (b:Bd) (w:Wr):Int:=if Qqs b w < 0 then 4 else if Qs (cutA w.1) Qxj=false∨Qho (b.2.2.1.getD (Qqs b w).toNat (dflt Qh)).2.1=false then 8 else if Qs w.2 Qa1=false then 20 else 0
def QyQ:Qk:=⟨[gBd,(⟨true,Qx⟩:Sig)],fun (b,w,_)=>(some (b.2.2.1.length≤4611686018427387904∧w.1.size≤140737488351232),I (Qa3 b w),[])⟩
theorem Qxk:Qi Tryz.prog 103 QyQ.spec:=by
 have hP:Qe Tryz.prog _:=Qa QDP (Qa Qub (Qa QoI (Qc (T:=tree))))
 have hT:=tabs hP Qf
 refine QyQ.good (fn:=Tryz.f103) hT hP Tryz.func103 (by kernel_rfl) rfl fun (b:Bd) (w:Wr) hq=>?_
 obtain ⟨hl,hw⟩:b.2.2.1.length≤4611686018427387904∧w.1.size≤140737488351232:=hq _ rfl
 clear hq
 have hin:=Qjv (nmB (Qdn w.1)) b.2.2.1
 obtain ⟨bn,⟨un,ui,ur,uq,um⟩,bc,bw⟩:=b
 obtain ⟨wf,wt⟩:=w
 repeat' first |(refine Go.mk ?_;conv=>whnf) |refine Ql.go ?_ ?_ |refine Qm.go (fun _=>?_) (fun _=>?_) |refine Br.dec (fun _=>?_) (fun _=>?_) |refine Br.go (fun _=>?_) (fun _=>?_) |refine Qd hT hP mixed ?_ |refine Qb hT hP ?_
 all_goals (try dsimp only [Qj] at *)
 all_goals clear hT hP
 ·exact ⟨rfl,hw⟩
 ·exact hl
 ·rename_i g1
  refine .mk [] [] _ R R R R R R (Qg ?_)
  exact (if_pos g1:Qa3 (bn,(un,ui,ur,uq,um),bc,bw) (wf,wt)=4).symm
 ·rename_i g1 g2
  have g2:(!Qs (cutA wf) Qxj)=true:=g2
  refine .mk [] [] _ R R R R R R (Qg ?_)
  show 8=Qa3 (bn,(un,ui,ur,uq,um),bc,bw) (wf,wt)
  unfold Qa3 Qqs
  rw [if_neg (show ¬ Qby (nmB (Qdn wf)) bc < 0 from g1),if_pos (.inl (by simpa using g2))]
 ·rename_i g1 g2
  show 0≤Qby (nmB (Qdn wf)) bc∧Qby (nmB (Qdn wf)) bc < (bc.length:Int)
  have g1:¬ Qby (nmB (Qdn wf)) bc < 0:=g1
  have hin:Qby (nmB (Qdn wf)) bc=-1∨(0≤Qby (nmB (Qdn wf)) bc∧Qby (nmB (Qdn wf)) bc < bc.length):=hin
  omega
 ·rename_i g1 g2 g3
  have g3:(!Qho (bc.getD (Qby (nmB (Qdn wf)) bc).toNat (dflt Qh)).2.1)=true:=g3
  refine .mk [] [] _ R R R R R R (Qg ?_)
  show 8=Qa3 (bn,(un,ui,ur,uq,um),bc,bw) (wf,wt)
  unfold Qa3 Qqs
  rw [if_neg (show ¬ Qby (nmB (Qdn wf)) bc < 0 from g1),if_pos (.inr (by simpa using g3))]
 ·rename_i g1 g2 g3 g4
  have g2:(!Qs (cutA wf) Qxj)=false:=g2
  have g3:(!Qho (bc.getD (Qby (nmB (Qdn wf)) bc).toNat (dflt Qh)).2.1)=false:=g3
  have g4:(!Qs wt Qa1)=true:=g4
  refine .mk [] [] _ R R R R R R (Qg ?_)
  show 20=Qa3 (bn,(un,ui,ur,uq,um),bc,bw) (wf,wt)
  unfold Qa3 Qqs
  rw [if_neg (show ¬ Qby (nmB (Qdn wf)) bc < 0 from g1),if_neg (show ¬ (Qs (cutA wf) Qxj=false∨Qho (bc.getD (Qby (nmB (Qdn wf)) bc).toNat (dflt Qh)).2.1=false) from fun h=>h.elim (fun h=>by rw [h] at g2;cases g2) (fun h=>by rw [h] at g3;cases g3)),if_pos (show Qs wt Qa1=false by simpa using g4)]
 ·rename_i g1 g2 g3 g4
  have g2:(!Qs (cutA wf) Qxj)=false:=g2
  have g3:(!Qho (bc.getD (Qby (nmB (Qdn wf)) bc).toNat (dflt Qh)).2.1)=false:=g3
  have g4:(!Qs wt Qa1)=false:=g4
  refine .mk [] [] _ R R R R R R (Qg ?_)
  show 0=Qa3 (bn,(un,ui,ur,uq,um),bc,bw) (wf,wt)
  unfold Qa3 Qqs
  rw [if_neg (show ¬ Qby (nmB (Qdn wf)) bc < 0 from g1),if_neg (show ¬ (Qs (cutA wf) Qxj=false∨Qho (bc.getD (Qby (nmB (Qdn wf)) bc).toNat (dflt Qh)).2.1=false) from fun h=>h.elim (fun h=>by rw [h] at g2;cases g2) (fun h=>by rw [h] at g3;cases g3)),if_neg (show ¬ Qs wt Qa1=false from fun h=>by rw [h] at g4;cases g4)]
def Quf (pre:List Ins) (k:Nat) (prev:Int) (x:Ins):Int :=
 if x.1 < 0∨x.1 > 255 then 1 else if 0 < k∧x.1≤prev then 9 else if Qau (bytesOf x.2.1)=false then 15 else if QcB x.2.2.1 < 0 then 8
 else if pre.any (QhW x)=true then 5 else if QE x.2.2.2≠0 then QE x.2.2.2 else if QhX x.2.2.2≠QcB x.2.2.1 then 3 else 0
def Qqt (l:List Ins) (k:Nat):Int:=Quf (l.take k) k (l.getD (k-1) (dflt Qaw)).1 (l.getD k (dflt Qaw))
theorem Qcl {x:Int} (h:(x != 0)=true):x≠0:=by simpa using h
theorem Qav {x:Int} (h:(x != 0)=false):x=0:=by simpa using h
theorem Qo1 {pre:List Ins} {k:Nat} {pv xo xm:Int} {xs:ByteArray} {xc:List Cyc} (h1:¬ xo < 0) (h2:¬ xo > 255) (h3:¬ (0 < k∧xo≤pv)) (h4:(!Qau (bytesOf xs))=false) (h5:¬ QcB xm < 0) (h6:pre.any (QhW (xo,xs,xm,xc))=false) (h7:(QE xc != 0)=true):Quf pre k pv (xo,xs,xm,xc)=QE xc:=by
 unfold Quf
 rw [if_neg (show ¬ (xo < 0∨xo > 255) from fun h=>h.elim h1 h2),if_neg (show ¬ (0 < k∧xo≤pv) from h3),if_neg (show ¬ Qau (bytesOf xs)=false from fun h=>by rw [h] at h4;cases h4),if_neg (show ¬ QcB xm < 0 from h5),if_neg (show ¬ pre.any (QhW (xo,xs,xm,xc))=true from fun h=>by rw [h] at h6;cases h6),if_pos (show QE xc≠0 by simpa using h7)]
theorem QmP {pre:List Ins} {k:Nat} {pv xo xm:Int} {xs:ByteArray} {xc:List Cyc} (h1:¬ xo < 0) (h2:¬ xo > 255) (h3:¬ (0 < k∧xo≤pv)) (h4:(!Qau (bytesOf xs))=false) (h5:¬ QcB xm < 0) (h6:pre.any (QhW (xo,xs,xm,xc))=false) (h7:(QE xc != 0)=false) (h8:(QhX xc != QcB xm)=true):Quf pre k pv (xo,xs,xm,xc)=3:=by
 unfold Quf
 rw [if_neg (show ¬ (xo < 0∨xo > 255) from fun h=>h.elim h1 h2),if_neg (show ¬ (0 < k∧xo≤pv) from h3),if_neg (show ¬ Qau (bytesOf xs)=false from fun h=>by rw [h] at h4;cases h4),if_neg (show ¬ QcB xm < 0 from h5),if_neg (show ¬ pre.any (QhW (xo,xs,xm,xc))=true from fun h=>by rw [h] at h6;cases h6),if_neg (show ¬ QE xc≠0 by simpa using h7),if_pos (show QhX xc≠QcB xm by simpa using h8)]
theorem QjL {pre:List Ins} {k:Nat} {pv xo xm:Int} {xs:ByteArray} {xc:List Cyc} (h1:¬ xo < 0) (h2:¬ xo > 255) (h3:¬ (0 < k∧xo≤pv)) (h4:(!Qau (bytesOf xs))=false) (h5:¬ QcB xm < 0) (h6:pre.any (QhW (xo,xs,xm,xc))=false) (h7:(QE xc != 0)=false) (h8:(QhX xc != QcB xm)=false):Quf pre k pv (xo,xs,xm,xc)=0:=by
 unfold Quf
 rw [if_neg (show ¬ (xo < 0∨xo > 255) from fun h=>h.elim h1 h2),if_neg (show ¬ (0 < k∧xo≤pv) from h3),if_neg (show ¬ Qau (bytesOf xs)=false from fun h=>by rw [h] at h4;cases h4),if_neg (show ¬ QcB xm < 0 from h5),if_neg (show ¬ pre.any (QhW (xo,xs,xm,xc))=true from fun h=>by rw [h] at h6;cases h6),if_neg (show ¬ QE xc≠0 by simpa using h7),if_neg (show ¬ QhX xc≠QcB xm by simpa using h8)]
def QhB (l:List Ins):Int:=Q6 (Qqt l) (List.range l.length)
def QhY (c:Cpu):Int:=Q6 QE [c.2.2.1,c.2.2.2.1,c.2.2.2.2]
def Qds (c:Cpu):Int:=if Qau (bytesOf c.1)=false then 15 else if c.2.1.length > 256 then 2 else if QhB c.2.1≠0 then QhB c.2.1 else QhY c
theorem Qcb {n k:Nat} (h:k < n):(List.range n).getD k 0=k:=by
 rw [List.getD_eq_getElem?_getD,List.getElem?_range h];rfl
def QjM:Qk:=⟨[QvZ],fun (c,_)=>(none,I (Qds c),[])⟩
set_option maxHeartbeats 4000000 in
theorem Qug:Qi Tryz.prog 101 QjM.spec:=by
 have hP:Qe Tryz.prog _:=Qa Qe6 (Qa Qww (Qa QDG (Qa Qqq (Qa Qxd (Qc (T:=tree))))))
 have hT:=tabs hP Qf
 refine QjM.good (fn:=Tryz.f101) hT hP Tryz.func101 (by kernel_rfl) rfl fun (c:Cpu) _=>?_
 obtain ⟨cn,ci,cr,cq,cm⟩:=c
 repeat' first |(refine Go.mk ?_;conv=>whnf) |refine Ql.go ?_ ?_ |refine Qm.go (fun _=>?_) (fun _=>?_) |refine Br.dec (fun _=>?_) (fun _=>?_) |refine Br.go (fun _=>?_) (fun _=>?_) |refine Qd hT hP mixed ?_ |refine Qb hT hP ?_
 all_goals (try dsimp only [Qj] at *)
 ·rename_i g
  have g:Qau (bytesOf cn)=false:=by simpa using g
  refine .mk [] [] _ R R R R R R (Qg ?_)
  exact (if_pos g:Qds (cn,ci,cr,cq,cm)=15).symm
 ·rename_i g g2
  have g:Qau (bytesOf cn)=true:=by simpa using g
  have g2:(ci.length:Int) > 256:=g2
  refine .mk [] [] _ R R R R R R (Qg ?_)
  show 2=Qds (cn,ci,cr,cq,cm)
  unfold Qds
  rw [if_neg (by rw [g];decide),if_pos (by show ci.length > 256;omega)]
 rename_i g1 g2
 have g1:Qau (bytesOf cn)=true:=by simpa using g1
 have hn:ci.length≤256:=by have g2:¬ (ci.length:Int) > 256:=g2;omega
 clear g2
 have hC:∀ e:Int,e≠0→QhB ci=e→e=Qds (cn,ci,cr,cq,cm):=fun e h0 h1=>by
  unfold Qds
  rw [if_neg (by rw [g1];decide),if_neg (by show ¬ ci.length > 256;omega),if_pos (by rw [h1];exact h0)];exact h1.symm
 have hT2:QhB ci=0→QhY (cn,ci,cr,cq,cm)=Qds (cn,ci,cr,cq,cm):=fun h1=>by
  unfold Qds
  rw [if_neg (by rw [g1];decide),if_neg (by show ¬ ci.length > 256;omega),if_neg (by rw [h1];decide)]
 refine QO hT hP (A:=Unit) ci.length (fun i _=>St.mk (E1 ((.cell (.ptr 0 0)) :: E10 (E5 (E3 ((.cell (.ro Qaw ci)) :: (I ci.length) :: (I i) :: E40 (E20 (E10 (E5 (E2 [])))))))))
  [some (.var [.imm (.string cn),.ro Qaw ci,.ro QA cr,.ro QA cq,.ro QA cm])])
  (fun k _=>Q6 (Qqt ci) ((List.range ci.length).drop k)=QhB ci) () (Le.mk [] [0] R R ?_ ?_) rfl fun k _ hk hi=>?_
 ·exact rfl
 ·repeat' first |exact trivial |exact ⟨rfl,rfl⟩ |refine And.intro ?_ ?_
 have hE:∀ e:Int,e≠0→Qqt ci k=e→k < ci.length→e=Qds (cn,ci,cr,cq,cm):=fun e h0 h1 hk=>by
  refine hC e h0 ?_
  have hr:k < (List.range ci.length).length:=by rw [List.length_range];exact hk
  have e1:=Qcb hk
  rw [← hi,QaA 0 hr (by rw [e1,h1];exact h0),e1,h1]
 have hN:Qqt ci k=0→k < ci.length→Q6 (Qqt ci) ((List.range ci.length).drop (k+1))=QhB ci:=fun h1 hk=>by
  have hr:k < (List.range ci.length).length:=by rw [List.length_range];exact hk
  rw [← hi,QaM 0 hr (by rw [Qcb hk,h1])]
 repeat' first |(refine Go.mk ?_;conv=>whnf) |refine Ql.go ?_ ?_ |refine Qm.go (fun _=>?_) (fun _=>?_) |refine Br.dec (fun _=>?_) (fun _=>?_) |refine Br.go (fun _=>?_) (fun _=>?_) |refine Qd hT hP mixed ?_ |refine Qb hT hP ?_
 all_goals (try dsimp only [Qj] at *)
 all_goals (have hp:(IntKind.i64.wrap ((k:Int)-1)).toNat=k-1:=by rw [w64 (by omega) (by omega)];omega)
 all_goals (generalize hx:ci.getD (k:Int).toNat (dflt Qaw)=x at *;obtain ⟨xo,xs,xm,xc⟩:=x)
 all_goals (have hx':ci.getD k (dflt Qaw)=(xo,xs,xm,xc):=hx)
 all_goals (have hI:Qqt ci k=Quf (ci.take k) k (ci.getD (k-1) (dflt Qaw)).1 (xo,xs,xm,xc):=by unfold Qqt;rw [hx'])
 all_goals (have hdt:(ci.take (k:Int).toNat).drop 0=ci.take k:=rfl)
 all_goals (rw [hI] at hE hN)
 all_goals (try simp only [hp] at *)
 all_goals (generalize (ci.getD (k-1) (dflt Qaw)).1=pv at *)
 all_goals (try rw [hdt] at *)
 all_goals first
  |exact .mk [] [] _ R R R R R R (Qg (hE _ (Qcl (x:=QE xc) (by assumption)) (Qo1 (by assumption) (by assumption) (fun h=>by omega) (by assumption) (by assumption) (by assumption) (by assumption)) (by omega)))
  |exact .mk [] [] _ R R R R R R (Qg (hE _ (by decide) (QmP (by assumption) (by assumption) (fun h=>by omega) (by assumption) (by assumption) (by assumption) (by assumption) (by assumption)) (by omega)))
  |(refine .mk [] [] _ R R R R R R (Qg (hE _ ?_ ?_ (by omega)))
     ·first
       |decide
       |(have h0:(QE xc != 0)=true:=by assumption
          simpa using h0)
     ·clear hT hP hE hN hC hT2 hi hx hx' hI
      simp [Quf] at *
      try first
       |omega
       |(simp_all;done)
       |(simp_all;omega))
  |(show 0≤(k:Int)∧(k:Int) < (ci.length:Int)
     omega)
  |(show 0≤(k:Int)∧(k:Int)≤(ci.length:Int)
     omega)
  |(show 0≤IntKind.i64.wrap ((k:Int)-1)∧IntKind.i64.wrap ((k:Int)-1) < (ci.length:Int)
     rw [w64 (by omega) (by omega)];omega)
  |(refine ⟨?_,trivial⟩
     show ((ci.take k).drop 0).length≤4611686018427387904
     rw [List.drop_zero,List.length_take];omega)
  |(have h0:(QE xc != 0)=false:=by assumption
     show xc.length≤1000
     have h1:QE xc=0:=by simpa using h0
     unfold QE at h1
     split at h1
     ·cases h1
     ·omega)
  |skip
 ·apply Exists.intro
  apply Exists.intro ()
  refine And.intro (And.intro ?lt115 (And.intro ?ei115 ?inv115)) (Le.mk [] [0] R R ?hh115 ?ht115)
  case hh115=>exact rfl
  case ht115=>repeat' first |exact trivial |exact ⟨rfl,rfl⟩ |refine And.intro ?_ ?_
  case lt115=>omega
  case ei115=>exact QW (by omega)
  exact hN (QjL (by assumption) (by assumption) (fun h=>by omega) (by assumption) (by assumption) (by assumption) (by assumption) (by assumption)) (by omega)
 ·apply Exists.intro
  apply Exists.intro ()
  refine And.intro (And.intro ?lt123 (And.intro ?ei123 ?inv123)) (Le.mk [] [0] R R ?hh123 ?ht123)
  case hh123=>exact rfl
  case ht123=>repeat' first |exact trivial |exact ⟨rfl,rfl⟩ |refine And.intro ?_ ?_
  case lt123=>omega
  case ei123=>exact QW (by omega)
  exact hN (QjL (by assumption) (by assumption) (fun h=>by omega) (by assumption) (by assumption) (by assumption) (by assumption) (by assumption)) (by omega)
 have h0:QhB ci=0:=by
  rw [← hi,List.drop_of_length_le (by rw [List.length_range];omega)];rfl
 have hQ:=hT2 h0
 clear hE hN
 refine QZ 4 ?_
 repeat' first |(refine Go.mk ?_;conv=>whnf) |refine Ql.go ?_ ?_ |refine Qm.go (fun _=>?_) (fun _=>?_) |refine Br.dec (fun _=>?_) (fun _=>?_) |refine Br.go (fun _=>?_) (fun _=>?_) |refine Qd hT hP mixed ?_ |refine Qb hT hP ?_
 ·exact of_decide_eq_true rfl
 ·exact of_decide_eq_true rfl
 ·rename_i g1
  have g1:(QE cr != 0)=true:=g1
  refine .mk [] [] _ R R R R R R (Qg ?_)
  show QE cr=Qds (cn,ci,cr,cq,cm)
  rw [← hQ]
  exact (if_neg (Qcl g1):QhY (cn,ci,cr,cq,cm)=QE cr).symm
 ·exact of_decide_eq_true rfl
 ·exact of_decide_eq_true rfl
 ·rename_i g1 g2
  have g1:(QE cr != 0)=false:=g1
  have g2:(QE cq != 0)=true:=g2
  refine .mk [] [] _ R R R R R R (Qg ?_)
  show QE cq=Qds (cn,ci,cr,cq,cm)
  rw [← hQ]
  exact (((if_pos (Qav g1):QhY (cn,ci,cr,cq,cm)=Q6 QE [cq,cm])).trans (if_neg (Qcl g2))).symm
 ·exact of_decide_eq_true rfl
 ·exact of_decide_eq_true rfl
 ·rename_i g1 g2 g3
  have g1:(QE cr != 0)=false:=g1
  have g2:(QE cq != 0)=false:=g2
  have g3:(QE cm != 0)=true:=g3
  refine .mk [] [] _ R R R R R R (Qg ?_)
  show QE cm=Qds (cn,ci,cr,cq,cm)
  rw [← hQ]
  exact ((((if_pos (Qav g1):QhY (cn,ci,cr,cq,cm)=Q6 QE [cq,cm])).trans (if_pos (Qav g2):Q6 QE [cq,cm]=Q6 QE [cm])).trans (if_neg (Qcl g3))).symm
 ·rename_i g1 g2 g3
  have g1:(QE cr != 0)=false:=g1
  have g2:(QE cq != 0)=false:=g2
  have g3:(QE cm != 0)=false:=g3
  refine .mk [] [] _ R R R R R R (Qg ?_)
  show 0=Qds (cn,ci,cr,cq,cm)
  rw [← hQ]
  exact ((((if_pos (Qav g1):QhY (cn,ci,cr,cq,cm)=Q6 QE [cq,cm])).trans (if_pos (Qav g2):Q6 QE [cq,cm]=Q6 QE [cm])).trans (if_pos (Qav g3):Q6 QE [cm]=Q6 QE [])).symm
def Qa4 (c d:Cv):Int:=if Qs d.1 c.1=true then 5 else if c.2.2.1 < IntKind.i64.wrap (d.2.2.1+d.2.2.2.1)∧d.2.2.1 < IntKind.i64.wrap (c.2.2.1+c.2.2.2.1) then 16 else 0
def Qba (pre:List Cv) (c:Cv):Int:=if QX c≠0 then QX c else Q6 (Qa4 c) pre
def QaT (l:List Cv):Int:=Q6 (fun k=>Qba (l.take k) (l.getD k (dflt Qh))) (List.range l.length)
def QaN (b:Bd) (k:Nat):Int:=if Qa3 b (b.2.2.2.getD k (dflt Qx))≠0 then Qa3 b (b.2.2.2.getD k (dflt Qx)) else if (b.2.2.2.take k).any (QcC (b.2.2.2.getD k (dflt Qx)))=true then 5 else 0
def Qah (b:Bd):Int :=
 if Qau (bytesOf b.1)=false then 15 else if Qds b.2.1≠0 then Qds b.2.1 else if b.2.2.1.length > 12 then 2 else if QaT b.2.2.1≠0 then QaT b.2.2.1
 else if b.2.2.2.length > 40 then 2 else Q6 (QaN b) (List.range b.2.2.2.length)
theorem QmQ {c:Cv} (h:QX c=0):(0≤c.2.1∧c.2.1≤8)∧(1≤c.2.2.2.1∧c.2.2.2.1≤4096)∧0≤c.2.2.1∧c.2.2.1≤65536-c.2.2.2.1:=by
 obtain ⟨cn,ck,cb,cs,cd⟩:=c
 unfold QX at h
 dsimp only at h ⊢
 repeat' split at h
 all_goals first
  |(exfalso;revert h;decide)
  |skip
 all_goals
  rcases kinds ck with rfl |rfl |rfl |rfl |rfl |rfl |rfl |rfl |rfl |hx
 all_goals (try simp only [QjY] at *)
 all_goals first
  |omega
  |(simp only [Qch,sel] at *;omega)
  |(simp [Qch,sel] at *;omega)
theorem Qlx {c d:Cv} (hc:QX c=0) (hd:QX d=0) :
 (imax c.2.2.1 d.2.2.1 < imin (IntKind.i64.wrap (c.2.2.1+c.2.2.2.1)) (IntKind.i64.wrap (d.2.2.1+d.2.2.2.1))) ↔ (c.2.2.1 < IntKind.i64.wrap (d.2.2.1+d.2.2.2.1)∧d.2.2.1 < IntKind.i64.wrap (c.2.2.1+c.2.2.2.1)):=by
 have h1:=QmQ hc
 have h2:=QmQ hd
 rw [Q9,QbZ,w64 (by omega) (by omega),w64 (by omega) (by omega)]
 omega
theorem QjN {α:Type} {f:α→Int}:∀ {l:List α},Q6 f l=0→∀ x ∈ l,f x=0
 |y :: r,h,x,hx=>by
   unfold Q6 at h
   split at h
   ·rename_i h0
    rcases List.mem_cons.1 hx with rfl |hx
    ·exact h0
    ·exact QjN h x hx
   ·rename_i h0;exact absurd h h0
theorem Qly {l:List Cv} (h:QaT l=0) {k:Nat} (hk:k < l.length):Qba (l.take k) (l.getD k (dflt Qh))=0 :=
 QjN h k (List.mem_range.2 hk)
theorem Qxl {l:List Cv} (h:QaT l=0) {c:Cv} (hc:c ∈ l):QX c=0:=by
 obtain ⟨k,hk,e⟩:=List.getElem_of_mem hc
 have h1:=Qly h hk
 rw [List.getD_eq_getElem?_getD,List.getElem?_eq_getElem hk,Option.getD_some,e] at h1
 unfold Qba at h1
 split at h1
 ·rename_i h2;exact absurd h1 h2
 ·rename_i h2;omega
theorem Qqu {c d:Cv} (h:Qa4 c d=0):d.1≠c.1:=fun e=>by
 unfold Qa4 at h
 rw [if_pos (QH.2 e)] at h;cases h
theorem QdN {l:List Cv} (h:QaT l=0):l.Pairwise fun c d=>c.1≠d.1:=by
 rw [List.pairwise_iff_getElem]
 intro i j hi hj hij
 have h1:=Qly h hj
 rw [List.getD_eq_getElem?_getD,List.getElem?_eq_getElem hj,Option.getD_some] at h1
 unfold Qba at h1
 split at h1
 ·rename_i h2;exact absurd h1 h2
 ·have h3:=QjN h1 l[i] (by
   rw [List.mem_take_iff_getElem]
   exact ⟨i,by omega,rfl⟩)
  exact Qqu h3
def Qlz (s:ByteArray) (k:Int) (c:Cv):Int:=if Qs c.1 s=true then c.2.1 else k
def QhZ (s:ByteArray) (l:List Cv):Int:=l.foldl (Qlz s) (-1)
theorem Qd7 {s:ByteArray} {l:List Cv} {k:Nat} (h:k < l.length):QhZ s (l.take (k+1))=Qlz s (QhZ s (l.take k)) (l.getD k (dflt Qh)):=by
 unfold QhZ
 rw [QaR (dflt Qh) h,List.foldl_append];rfl
theorem Qix {s:ByteArray}:∀ {l:List Cv} {a:Int},(∀ c ∈ l,c.1≠s)→l.foldl (Qlz s) a=a
 | [],_,_=>rfl
 |x :: r,a,h=>by
   rw [List.foldl_cons,show Qlz s a x=a from if_neg (fun e=>h x (List.mem_cons_self ..) (QH.1 e))]
   exact Qix fun c hc=>h c (List.mem_cons_of_mem _ hc)
theorem QlA {s:ByteArray}:∀ {l:List Cv} {a:Int} {k:Nat},l.Pairwise (fun c d=>c.1≠d.1) →
 (Qdm (nmB s) l k < 0→l.foldl (Qlz s) a=a)∧(0≤Qdm (nmB s) l k→l.foldl (Qlz s) a=(l.getD (Qdm (nmB s) l k-k).toNat (dflt Qh)).2.1)
 | [],a,k,_=>⟨fun _=>rfl,fun h=>by simp [Qdm] at h⟩
 |x :: r,a,k,hp=>by
   rw [List.pairwise_cons] at hp
   by_cases hx:Qs x.1 s=true
   ·have e:Qdm (nmB s) (x :: r) k=k:=if_pos hx
    rw [e]
    refine ⟨fun h=>by omega,fun _=>?_⟩
    rw [List.foldl_cons,show Qlz s a x=x.2.1 from if_pos hx,Qix (fun c hc ec=>hp.1 c hc ((QH.1 hx).trans ec.symm)),show ((k:Int)-k).toNat=0 by omega]
    rfl
   ·have e:Qdm (nmB s) (x :: r) k=Qdm (nmB s) r (k+1):=if_neg hx
    obtain ⟨h1,h2⟩:=QlA (s:=s) (l:=r) (a:=a) (k:=k+1) hp.2
    rw [e,List.foldl_cons,show Qlz s a x=a from if_neg hx]
    refine ⟨h1,fun h=>?_⟩
    rw [h2 h]
    have hin:=Qju (p:=nmB s) (l:=r) (k:=k+1)
    rw [show (Qdm (nmB s) r (k+1)-(k:Int)).toNat=(Qdm (nmB s) r (k+1)-((k+1:Nat):Int)).toNat+1 by omega]
    rfl
theorem QjO {s:ByteArray} {l:List Cv} (hp:l.Pairwise fun c d=>c.1≠d.1):QhZ s l=if Qby (nmB s) l < 0 then -1 else (l.getD (Qby (nmB s) l).toNat (dflt Qh)).2.1:=by
 obtain ⟨h1,h2⟩:=QlA (s:=s) (a:=-1) (k:=0) hp
 unfold QhZ Qby
 split
 ·rename_i h;exact h1 h
 ·rename_i h
  rw [h2 (by omega)];simp
theorem Qfe {s:ByteArray} {l:List Cv} (h:QaT l=0):QhZ s l < 0 ↔ Qby (nmB s) l < 0:=by
 rw [QjO (QdN h)]
 have hin:=Qjv (nmB s) l
 split
 ·rename_i h1;exact ⟨fun _=>h1,fun _=>by decide⟩
 ·rename_i h1
  have:=(QmQ (Qxl h (QQ (dflt Qh) (show (Qby (nmB s) l).toNat < l.length by omega)))).1
  omega
theorem QlB {a b:ByteArray} (h:a.data.toList=b.data.toList):a=b:=by
 cases a;cases b;simp only [ByteArray.mk.injEq];exact Array.ext' h
theorem QlC:∀ {l:List UInt8},0≤Lib.indexByte l 46→l=l.take (Lib.indexByte l 46).toNat++46 :: l.drop ((Lib.indexByte l 46).toNat+1)
 | [],h=>by simp [Lib.indexByte] at h
 |x :: r,h=>by
   unfold Lib.indexByte at h ⊢
   by_cases hx:(x == 46)=true
   ·rw [if_pos hx]
    have:x=46:=by simpa using hx
    subst this;rfl
   ·rw [if_neg hx] at h ⊢
    by_cases h2:(Lib.indexByte r 46 == -1)=true
    ·rw [if_pos h2] at h;simp at h
    ·rw [if_neg h2] at h ⊢
     have hin:=Qhz 46 r
     have h3:Lib.indexByte r 46≠-1:=fun e=>h2 (beq_iff_eq.2 e)
     have ih:=QlC (l:=r) (by omega)
     rw [show (Lib.indexByte r 46+1).toNat=(Lib.indexByte r 46).toNat+1 by omega]
     simpa using ih
theorem QyR (s:ByteArray):Qs s (Qdn s++Qgu)=Qs (cutA s) Qxj:=by
 rw [Bool.eq_iff_iff,QH,QH]
 by_cases hd:0≤QbA s
 ·have e:=QlC (l:=s.data.toList) hd
  have h1:(Qdn s).data.toList=s.data.toList.take (QbA s).toNat:=by
   unfold Qdn;rw [if_pos hd,ByteArray.data_extract];simp
  have hin:=QhA hd
  have hsz:s.data.toList.length=s.size:=Array.length_toList
  have h2:(cutA s).data.toList=s.data.toList.drop ((QbA s).toNat+1):=by
   unfold cutA;rw [if_pos hd,ByteArray.data_extract,show (QbA s+1).toNat=(QbA s).toNat+1 by omega]
   rw [Array.toList_extract,List.extract_eq_take_drop]
   rw [List.take_of_length_le (by rw [List.length_drop];omega)]
  have h3:(Qdn s++Qgu).data.toList=s.data.toList.take (QbA s).toNat++[46,105,114,113]:=by
   rw [ByteArray.data_append,Array.toList_append,h1];rfl
  constructor
  ·intro h
   apply QlB
   rw [h2]
   have h4:s.data.toList=(Qdn s++Qgu).data.toList:=congrArg (fun x:ByteArray=>x.data.toList) h
   rw [h3] at h4
   have h5:=e.symm.trans h4
   have h6:=List.append_cancel_left h5
   injection h6
  ·intro h
   apply QlB
   rw [h3]
   have h4:(cutA s).data.toList=Qxj.data.toList:=congrArg (fun x:ByteArray=>x.data.toList) h
   rw [h2] at h4
   have h5:s.data.toList.drop ((QbA s).toNat+1)=[105,114,113]:=h4
   refine e.trans ?_
   show s.data.toList.take (QbA s).toNat++46 :: s.data.toList.drop ((QbA s).toNat+1)=_
   rw [h5]
 ·have e1:Qdn s=s:=if_neg hd
  have e2:cutA s=⟨#[]⟩:=if_neg hd
  rw [e1,e2]
  constructor
  ·intro h
   have h4:=congrArg ByteArray.size h
   rw [ByteArray.size_append] at h4
   have:Qgu.size=4:=rfl
   omega
  ·intro h
   exact absurd (congrArg ByteArray.size h) (by decide)
theorem Qxm {l:List (Den Qx × Den .bool)} {k k':Den Qx} {v:Den .bool}:Qaf (Qaj l k v) k'=if QF Qx k' k=true then some v else Qaf l k':=by
 have hs:∀ {a b:Den Qx},QF Qx a b=true ↔ a=b:=QtE
 induction l with
 |nil =>
   show (match QF Qx k' k with |true=>some v |false=>none)=_
   cases QF Qx k' k<;>rfl
 |cons p r ih =>
   obtain ⟨pk,pv⟩:=p
   by_cases h:QF Qx k pk=true
   ·have e:Qaj ((pk,pv) :: r) k v=(k,v) :: r:=by
     show (match QF Qx k pk with |true=>(k,v) :: r |false=>(pk,pv) :: Qaj r k v)=_
     rw [h]
    rw [e]
    have hk:=hs.1 h
    subst hk
    show (match QF Qx k' k with |true=>some v |false=>Qaf r k')=if QF Qx k' k=true then some v else (match QF Qx k' k with |true=>some pv |false=>Qaf r k')
    cases QF Qx k' k<;>rfl
   ·have h0:QF Qx k pk=false:=by simpa using h
    have e:Qaj ((pk,pv) :: r) k v=(pk,pv) :: Qaj r k v:=by
     show (match QF Qx k pk with |true=>(k,v) :: r |false=>(pk,pv) :: Qaj r k v)=_
     rw [h0]
    rw [e]
    show (match QF Qx k' pk with |true=>some pv |false=>Qaf (Qaj r k v) k')=if QF Qx k' k=true then some v else (match QF Qx k' pk with |true=>some pv |false=>Qaf r k')
    rw [ih]
    by_cases h1:QF Qx k' pk=true
    ·have h2:¬ QF Qx k' k=true:=fun h3=>h (by rw [← hs.1 h3];exact h1)
     rw [h1]
     show some pv=if QF Qx k' k=true then some v else some pv
     rw [if_neg h2]
    ·have h1':QF Qx k' pk=false:=by simpa using h1
     rw [h1']
def QBa (M:List (Den Qx × Den .bool)) (l:List Wr):Prop:=∀ x:Wr,Qf6 (Qaf M x) false=l.any (QcC x)
theorem QlD {M:List (Den Qx × Den .bool)} {l:List Wr} {k:Nat} {y:Wr} (h:QBa M (l.take k)) (hk:k < l.length) (e:l.getD k (dflt Qx)=y):QBa (Qaj M y true) (l.take (k+1)):=by
 intro x
 rw [Qxm,QaR (dflt Qx) hk,e,List.any_append]
 by_cases hc:QcC x y=true
 ·rw [if_pos (show QF Qx x y=true from hc)]
  show true=_
  simp [hc]
 ·rw [if_neg (show ¬ QF Qx x y=true from hc),h x]
  have hc':QcC x y=false:=by simpa using hc
  simp [hc']
def QBy (b:Bd):Prop:=bdP b∧∀ w ∈ b.2.2.2,w.1.size≤140737488351232
theorem Qdh {l:List Cv} {k:Nat} {e:Int} (hk:k < l.length) (hi:Q6 (fun k=>Qba (l.take k) (l.getD k (dflt Qh))) ((List.range l.length).drop k)=QaT l) :
 (Qba (l.take k) (l.getD k (dflt Qh))≠0→Qba (l.take k) (l.getD k (dflt Qh))=QaT l)∧(Qba (l.take k) (l.getD k (dflt Qh))=0→Q6 (fun k=>Qba (l.take k) (l.getD k (dflt Qh))) ((List.range l.length).drop (k+1))=QaT l):=by
 have hr:k < (List.range l.length).length:=by rw [List.length_range];exact hk
 have e1:=Qcb hk
 constructor
 ·intro h
  rw [← hi,QaA 0 hr (by rw [e1];exact h),e1]
 ·intro h
  rw [← hi,QaM 0 hr (by rw [e1];exact h)]
theorem QhC {b:Bd} {k:Nat} (hk:k < b.2.2.2.length) (hi:Q6 (QaN b) ((List.range b.2.2.2.length).drop k)=Q6 (QaN b) (List.range b.2.2.2.length)) :
 (QaN b k≠0→QaN b k=Q6 (QaN b) (List.range b.2.2.2.length))∧(QaN b k=0→Q6 (QaN b) ((List.range b.2.2.2.length).drop (k+1))=Q6 (QaN b) (List.range b.2.2.2.length)):=by
 have hr:k < (List.range b.2.2.2.length).length:=by rw [List.length_range];exact hk
 have e1:=Qcb hk
 constructor
 ·intro h
  rw [← hi,QaA 0 hr (by rw [e1];exact h),e1]
 ·intro h
  rw [← hi,QaM 0 hr (by rw [e1];exact h)]
def QjP:Qk:=⟨[gBd],fun (b,_)=>(some (QBy b),I (Qah b),[])⟩
set_option maxHeartbeats 8000000 in
theorem Quh:Qi Tryz.prog 53 QjP.spec:=by
 have hP:Qe Tryz.prog _:=Qa Qe6 (Qa Qug (Qa Qlc (Qa Qxk (Qa QtF (Qc (T:=tree))))))
 have hT:=tabs hP Qf
 refine QjP.good (fn:=Tryz.f53) hT hP Tryz.func53 (by kernel_rfl) rfl fun (b:Bd) hq=>?_
 obtain ⟨⟨⟨hl1,hl2⟩,hcp⟩,hwp⟩:QBy b:=hq _ rfl
 clear hq
 obtain ⟨bn,⟨un,ui,ur,uq,um⟩,bc,bw⟩:=b
 have hl1:bc.length*64≤140737488351232:=hl1
 have hl2:bw.length*32≤140737488351232:=hl2
 have hcp:∀ c ∈ bc,cP c∧c.1.size≤140737488351232:=hcp
 have hwp:∀ w ∈ bw,w.1.size≤140737488351232:=hwp
 obtain ⟨B,hB⟩:∃ B:Bd,B=(bn,(un,ui,ur,uq,um),bc,bw):=⟨_,rfl⟩
 have hBE:Qah (bn,(un,ui,ur,uq,um),bc,bw)=if Qau (bytesOf bn)=false then 15 else if Qds (un,ui,ur,uq,um)≠0 then Qds (un,ui,ur,uq,um) else if bc.length > 12 then 2 else if QaT bc≠0 then QaT bc
  else if bw.length > 40 then 2 else Q6 (QaN (bn,(un,ui,ur,uq,um),bc,bw)) (List.range bw.length):=rfl
 repeat' first |(refine Go.mk ?_;conv=>whnf) |refine Ql.go ?_ ?_ |refine Qm.go (fun _=>?_) (fun _=>?_) |refine Br.dec (fun _=>?_) (fun _=>?_) |refine Br.go (fun _=>?_) (fun _=>?_) |refine Qd hT hP mixed ?_ |refine Qb hT hP ?_
 all_goals (try dsimp only [Qj] at *)
 ·rename_i g
  have g:Qau (bytesOf bn)=false:=by simpa using g
  refine .mk [] [] _ R R R R R R (Qg ?_)
  rw [hBE,if_pos g]
 ·rename_i g g2
  have g:Qau (bytesOf bn)=true:=by simpa using g
  have g2:=Qcl (x:=Qds (un,ui,ur,uq,um)) g2
  refine .mk [] [] _ R R R R R R (Qg ?_)
  rw [hBE,if_neg (by rw [g];decide),if_pos g2]
 ·rename_i g g2 g3
  have g:Qau (bytesOf bn)=true:=by simpa using g
  have g2:=Qav (x:=Qds (un,ui,ur,uq,um)) g2
  have g3:(bc.length:Int) > 12:=g3
  refine .mk [] [] _ R R R R R R (Qg ?_)
  rw [hBE,if_neg (by rw [g];decide),if_neg (fun h=>h g2),if_pos (by omega)]
 rename_i g g2 g3
 have g:Qau (bytesOf bn)=true:=by simpa using g
 have g2:=Qav (x:=Qds (un,ui,ur,uq,um)) g2
 have g3:¬ (bc.length:Int) > 12:=g3
 rw [if_neg (by rw [g];decide),if_neg (fun h=>h g2),if_neg (by omega)] at hBE
 refine QO hT hP (A:=Unit) bc.length (fun i _=>St.mk (E1 ((.cell (.ptr 0 0)) :: E20 (E5 ((.cell (.ro Qh bc)) :: (I bc.length) :: (I i) :: E40 (E20 (E10 []))))))
  [some (.var [.imm (.string bn),.imm (.string un),.ro Qaw ui,.ro QA ur,.ro QA uq,.ro QA um,.ro Qh bc,.ro Qx bw])])
  (fun k _=>Q6 (fun k=>Qba (bc.take k) (bc.getD k (dflt Qh))) ((List.range bc.length).drop k)=QaT bc) () (Le.mk [] [0] R R ?_ ?_) rfl fun k _ hk hi=>?_
 ·exact rfl
 ·repeat' first |exact trivial |exact ⟨rfl,rfl⟩ |refine And.intro ?_ ?_
 have hcb:∀ e:Int,QaT bc=e→e≠0→e=Qah (bn,(un,ui,ur,uq,um),bc,bw):=fun e h1 h2=>by
  rw [hBE,if_pos (by rw [h1];exact h2),h1]
 repeat' first |(refine Go.mk ?_;conv=>whnf) |refine Ql.go ?_ ?_ |refine Qm.go (fun _=>?_) (fun _=>?_) |refine Br.dec (fun _=>?_) (fun _=>?_) |refine Br.go (fun _=>?_) (fun _=>?_) |refine Qd hT hP mixed ?_ |refine Qb hT hP ?_
 all_goals (try dsimp only [Qj] at *)
 ·show 0≤(k:Int)∧(k:Int) < (bc.length:Int)
  omega
 ·rename_i g4
  have g4:(k:Int) < (bc.length:Int):=g4
  exact (hcp _ (QQ (dflt Qh) (show k < bc.length by omega))).1
 ·rename_i g4 g5
  have g4:(k:Int) < (bc.length:Int):=g4
  have g5:(QX (bc.getD k (dflt Qh)) != 0)=true:=g5
  have hs:=(Qdh (e:=0) (show k < bc.length by omega) hi).1
  have e:Qba (bc.take k) (bc.getD k (dflt Qh))=QX (bc.getD k (dflt Qh)):=if_pos (Qcl g5)
  rw [e] at hs
  exact .mk [] [] _ R R R R R R (Qg (hcb _ (hs (Qcl g5)).symm (Qcl g5)))
 ·show 0≤(k:Int)∧(k:Int)≤(bc.length:Int)
  omega
 ·rename_i g4 g5
  have g4:(k:Int) < (bc.length:Int):=g4
  have g5:(QX (bc.getD k (dflt Qh)) != 0)=false:=g5
  have hs:=Qdh (e:=0) (show k < bc.length by omega) hi
  have e:Qba (bc.take k) (bc.getD k (dflt Qh))=Q6 (Qa4 (bc.getD k (dflt Qh))) (bc.take k):=if_neg (fun h=>h (Qav g5))
  rw [e] at hs
  have hx:bc.getD (k:Int).toNat (dflt Qh)=bc.getD k (dflt Qh):=rfl
  have htl:(bc.take k).length=k:=by rw [List.length_take];omega
  have hts:((bc.take (k:Int).toNat).drop 0)=bc.take k:=rfl
  rw [hts,hx]
  generalize bc.getD k (dflt Qh)=x at *
  obtain ⟨xn,xk,xb,xs,xd⟩:=x
  generalize bc.take k=pre at *
  refine QO hT hP (A:=Unit) pre.length (fun j _=>St.mk (E1 ((.cell (.ptr 0 0)) :: E3 ((.cell (.ptr 1 0)) :: E20 (E1 ((.cell (.ro Qh bc)) :: (I bc.length) :: (I k) :: E10 (E2 ((.cell (.ro Qh pre)) :: (I pre.length) :: (I j) :: E40 (E10 (E5 [])))))))))
   [some (.var [.imm (.string bn),.imm (.string un),.ro Qaw ui,.ro QA ur,.ro QA uq,.ro QA um,.ro Qh bc,.ro Qx bw]),some (.var [.imm (.string xn),iv .i64 xk,iv .i64 xb,iv .i64 xs,.ro (.int .u8) xd])])
   (fun j _=>Q6 (Qa4 (xn,xk,xb,xs,xd)) (pre.drop j)=Q6 (Qa4 (xn,xk,xb,xs,xd)) pre) () (Le.mk [] [0,1] R R ?_ ?_) rfl fun j _ hj hi2=>?_
  ·exact rfl
  ·repeat' first |exact trivial |exact ⟨rfl,rfl⟩ |refine And.intro ?_ ?_
  repeat' first |(refine Go.mk ?_;conv=>whnf) |refine Ql.go ?_ ?_ |refine Qm.go (fun _=>?_) (fun _=>?_) |refine Br.dec (fun _=>?_) (fun _=>?_) |refine Br.go (fun _=>?_) (fun _=>?_) |refine Qd hT hP mixed ?_ |refine Qb hT hP ?_
  all_goals (try dsimp only [Qj] at *)
  all_goals clear hT hP
  all_goals (generalize hy:pre.getD (j:Int).toNat (dflt Qh)=y at *;obtain ⟨yn,yk,yb,ys,yd⟩:=y)
  all_goals (replace hy:pre.getD j (dflt Qh)=(yn,yk,yb,ys,yd):=hy)
  all_goals (have hok:Qa4 (xn,xk,xb,xs,xd) (yn,yk,yb,ys,yd)=0→(j:Int) < (pre.length:Int)→Q6 (Qa4 (xn,xk,xb,xs,xd)) (pre.drop (j+1))=Q6 (Qa4 (xn,xk,xb,xs,xd)) pre:=fun h0 h1=>(QaM (f:=Qa4 (xn,xk,xb,xs,xd)) (dflt Qh) (show j < pre.length by omega) (by rw [hy,h0])).symm.trans hi2)
  ·show 0≤(j:Int)∧(j:Int) < (pre.length:Int)
   omega
  ·rename_i g6 g7
   have g6:(j:Int) < (pre.length:Int):=g6
   have g7:Qs yn xn=true:=g7
   have e5:Qa4 (xn,xk,xb,xs,xd) (yn,yk,yb,ys,yd)=5:=if_pos g7
   have e6:=QaA (f:=Qa4 (xn,xk,xb,xs,xd)) (dflt Qh) (show j < pre.length by omega) (by rw [hy,e5];decide)
   rw [hy,e5,hi2] at e6
   rw [e6] at hs
   exact .mk [] [] _ R R R R R R (Qg (hcb _ (hs.1 (by decide)).symm (by decide)))
  ·rename_i g6 g7 g8 g9
   have g6:(j:Int) < (pre.length:Int):=g6
   have g7:Qs yn xn=false:=g7
   have e5:Qa4 (xn,xk,xb,xs,xd) (yn,yk,yb,ys,yd)=16:=by
    unfold Qa4
    rw [if_neg (by rw [show Qs yn xn=false from g7];decide),if_pos ⟨g8,g9⟩]
   have e6:=QaA (f:=Qa4 (xn,xk,xb,xs,xd)) (dflt Qh) (show j < pre.length by omega) (by rw [hy,e5];decide)
   rw [hy,e5,hi2] at e6
   rw [e6] at hs
   exact .mk [] [] _ R R R R R R (Qg (hcb _ (hs.1 (by decide)).symm (by decide)))
  ·rename_i g6 g7 g8 g9
   have g6:(j:Int) < (pre.length:Int):=g6
   apply Exists.intro
   apply Exists.intro ()
   refine And.intro (And.intro ?lt136 (And.intro ?ei136 ?inv136)) (Le.mk [] [0,1] R R ?hh136 ?ht136)
   case hh136=>exact rfl
   case ht136=>repeat' first |exact trivial |exact ⟨rfl,rfl⟩ |refine And.intro ?_ ?_
   case lt136=>omega
   case ei136=>exact QW (by omega)
   refine hok ?_ g6
   unfold Qa4
   rw [if_neg (by rw [show Qs yn xn=false from g7];decide),if_neg (fun h=>g9 h.2)]
  ·rename_i g6 g7 g8
   have g6:(j:Int) < (pre.length:Int):=g6
   apply Exists.intro
   apply Exists.intro ()
   refine And.intro (And.intro ?lt148 (And.intro ?ei148 ?inv148)) (Le.mk [] [0,1] R R ?hh148 ?ht148)
   case hh148=>exact rfl
   case ht148=>repeat' first |exact trivial |exact ⟨rfl,rfl⟩ |refine And.intro ?_ ?_
   case lt148=>omega
   case ei148=>exact QW (by omega)
   refine hok ?_ g6
   unfold Qa4
   rw [if_neg (by rw [show Qs yn xn=false from g7];decide),if_neg (fun h=>g8 h.1)]
  ·rename_i g6
   have g6:¬ (j:Int) < (pre.length:Int):=g6
   have e0:Q6 (Qa4 (xn,xk,xb,xs,xd)) pre=0:=by
    rw [← hi2,List.drop_of_length_le (by omega)];rfl
   apply Exists.intro
   apply Exists.intro ()
   refine And.intro (And.intro ?lt162 (And.intro ?ei162 ?inv162)) (Le.mk [] [0] R R ?hh162 ?ht162)
   case hh162=>exact rfl
   case ht162=>repeat' first |exact trivial |exact ⟨rfl,rfl⟩ |refine And.intro ?_ ?_
   case lt162=>omega
   case ei162=>exact QW (by omega)
   exact hs.2 e0
 ·rename_i g4 g5
  have g4:¬ (k:Int) < (bc.length:Int):=g4
  have g5:(bw.length:Int) > 40:=g5
  have h0:QaT bc=0:=by
   rw [← hi,List.drop_of_length_le (by rw [List.length_range];omega)];rfl
  refine .mk [] [] _ R R R R R R (Qg ?_)
  rw [hBE,if_neg (fun h=>h h0),if_pos (by omega)]
 rename_i g4 g5
 have g4:¬ (k:Int) < (bc.length:Int):=g4
 have g5:¬ (bw.length:Int) > 40:=g5
 have h0:QaT bc=0:=by
  rw [← hi,List.drop_of_length_le (by rw [List.length_range];omega)];rfl
 rw [if_neg (fun h=>h h0),if_neg (by omega)] at hBE
 clear hi hcb
 refine QO hT hP (A:=Unit) bw.length (fun i _=>St.mk (E1 ((.cell (.ptr 0 0)) :: E40 (E20 (E10 (E5 (E3 ((.cell (.ro Qx bw)) :: (I bw.length) :: (I i) :: E10 (E5 (E2 [])))))))))
  [some (.var [.imm (.string bn),.imm (.string un),.ro Qaw ui,.ro QA ur,.ro QA uq,.ro QA um,.ro Qh bc,.ro Qx bw])])
  (fun k _=>Q6 (QaN (bn,(un,ui,ur,uq,um),bc,bw)) ((List.range bw.length).drop k)=Q6 (QaN (bn,(un,ui,ur,uq,um),bc,bw)) (List.range bw.length)) () (Le.mk [] [0] R R ?_ ?_) rfl fun q _ hq hj=>?_
 ·exact rfl
 ·repeat' first |exact trivial |exact ⟨rfl,rfl⟩ |refine And.intro ?_ ?_
 repeat' first |(refine Go.mk ?_;conv=>whnf) |refine Ql.go ?_ ?_ |refine Qm.go (fun _=>?_) (fun _=>?_) |refine Br.dec (fun _=>?_) (fun _=>?_) |refine Br.go (fun _=>?_) (fun _=>?_) |refine Qd hT hP mixed ?_ |refine Qb hT hP ?_
 all_goals (try dsimp only [Qj] at *)
 all_goals clear hT hP
 all_goals (generalize hw:bw.getD (q:Int).toNat (dflt Qx)=w at *;obtain ⟨wf,wt⟩:=w)
 all_goals (replace hw:bw.getD q (dflt Qx)=(wf,wt):=hw)
 all_goals (have hA:QaN (bn,(un,ui,ur,uq,um),bc,bw) q=if Qa3 (bn,(un,ui,ur,uq,um),bc,bw) (bw.getD q (dflt Qx))≠0 then Qa3 (bn,(un,ui,ur,uq,um),bc,bw) (bw.getD q (dflt Qx)) else if (bw.take q).any (QcC (bw.getD q (dflt Qx)))=true then 5 else 0:=rfl)
 all_goals (rw [hw] at hA)
 all_goals (have hs:=fun h=>QhC (b:=(bn,(un,ui,ur,uq,um),bc,bw)) (k:=q) h hj)
 all_goals (rw [hA] at hs)
 ·show 0≤(q:Int)∧(q:Int) < (bw.length:Int)
  omega
 ·rename_i g6
  have g6:(q:Int) < (bw.length:Int):=g6
  have:=hwp _ (QQ (dflt Qx) (show q < bw.length by omega))
  rw [hw] at this
  exact ⟨by omega,this⟩
 ·rename_i g6 g7
  have g6:(q:Int) < (bw.length:Int):=g6
  have g7:=Qcl (x:=Qa3 (bn,(un,ui,ur,uq,um),bc,bw) (wf,wt)) g7
  have hs:=hs (by show q < bw.length;omega)
  rw [if_pos g7] at hs
  refine .mk [] [] _ R R R R R R (Qg ?_)
  rw [hBE,← hs.1 g7]
 ·show 0≤(q:Int)∧(q:Int)≤(bw.length:Int)
  omega
 ·show ((bw.take (q:Int).toNat).drop 0).length≤4611686018427387904
  rw [List.drop_zero,List.length_take];omega
 ·rename_i g6 g7 g8
  have g6:(q:Int) < (bw.length:Int):=g6
  have g7:=Qav (x:=Qa3 (bn,(un,ui,ur,uq,um),bc,bw) (wf,wt)) g7
  have g8:(bw.take q).any (QcC (wf,wt))=true:=g8
  have hs:=hs (by show q < bw.length;omega)
  rw [if_neg (fun h=>h g7),if_pos g8] at hs
  refine .mk [] [] _ R R R R R R (Qg ?_)
  rw [hBE,← hs.1 (by decide)]
 ·rename_i g6 g7 g8
  have g6:(q:Int) < (bw.length:Int):=g6
  have g7:=Qav (x:=Qa3 (bn,(un,ui,ur,uq,um),bc,bw) (wf,wt)) g7
  have g8:(bw.take q).any (QcC (wf,wt))=false:=g8
  have hs:=hs (by show q < bw.length;omega)
  rw [if_neg (fun h=>h g7),if_neg (by rw [g8];decide)] at hs
  apply Exists.intro
  apply Exists.intro ()
  refine And.intro (And.intro ?lt230 (And.intro ?ei230 ?inv230)) (Le.mk [] [0] R R ?hh230 ?ht230)
  case hh230=>exact rfl
  case ht230=>repeat' first |exact trivial |exact ⟨rfl,rfl⟩ |refine And.intro ?_ ?_
  case lt230=>omega
  case ei230=>exact QW (by omega)
  exact hs.2 rfl
 ·rename_i g6
  have g6:¬ (q:Int) < (bw.length:Int):=g6
  refine .mk [] [] _ R R R R R R (Qg ?_)
  rw [hBE,← hj,List.drop_of_length_le (by rw [List.length_range];omega)];rfl
abbrev Qff:Ty:=.pair .str (.int .i64)
theorem Qqv {l:List (Den Qff × Den .bool)} {k k':Den Qff} {v:Den .bool}:Qaf (Qaj l k v) k'=if QF Qff k' k=true then some v else Qaf l k':=by
 have hs:∀ {a b:Den Qff},QF Qff a b=true ↔ a=b:=fun {a b}=>⟨fun h=>Qc5 rfl h,fun h=>by rw [h];exact QcU rfl⟩
 induction l with
 |nil =>
   show (match QF Qff k' k with |true=>some v |false=>none)=_
   cases QF Qff k' k<;>rfl
 |cons p r ih =>
   obtain ⟨pk,pv⟩:=p
   by_cases h:QF Qff k pk=true
   ·have e:Qaj ((pk,pv) :: r) k v=(k,v) :: r:=by
     show (match QF Qff k pk with |true=>(k,v) :: r |false=>(pk,pv) :: Qaj r k v)=_
     rw [h]
    rw [e]
    have hk:=hs.1 h
    subst hk
    show (match QF Qff k' k with |true=>some v |false=>Qaf r k')=if QF Qff k' k=true then some v else (match QF Qff k' k with |true=>some pv |false=>Qaf r k')
    cases QF Qff k' k<;>rfl
   ·have h0:QF Qff k pk=false:=by simpa using h
    have e:Qaj ((pk,pv) :: r) k v=(pk,pv) :: Qaj r k v:=by
     show (match QF Qff k pk with |true=>(k,v) :: r |false=>(pk,pv) :: Qaj r k v)=_
     rw [h0]
    rw [e]
    show (match QF Qff k' pk with |true=>some pv |false=>Qaf (Qaj r k v) k')=if QF Qff k' k=true then some v else (match QF Qff k' pk with |true=>some pv |false=>Qaf r k')
    rw [ih]
    by_cases h1:QF Qff k' pk=true
    ·have h2:¬ QF Qff k' k=true:=fun h3=>h (by rw [← hs.1 h3];exact h1)
     rw [h1]
     show some pv=if QF Qff k' k=true then some v else some pv
     rw [if_neg h2]
    ·have h1':QF Qff k' pk=false:=by simpa using h1
     rw [h1']
theorem QID (x:Int):(x != land .i64 x 255)=decide (x < 0∨x > 255):=by
 have e2:QlM x 8=land .i64 x 255:=by unfold QlM;rw [show IntKind.i64.wrap (shl .i64 1 (Qat 8)-1)=255 by decide]
 have e:land .i64 x 255=x%256:=by rw [← e2,Qi5 x 8 (by decide) (by decide)];rfl
 rw [e]
 rw [Bool.eq_iff_iff]
 simp
 omega
def Qui (M:List (Den Qff × Den .bool)) (l:List Ins):Prop:=∀ x:Ins,Qf6 (Qaf M (x.2.1,x.2.2.1)) false=l.any (QhW x)
theorem Quj {x y:Ins}:QhW x y=true ↔ (x.2.1,x.2.2.1)=(y.2.1,y.2.2.1):=by
 unfold QhW
 have hs:Qs y.2.1 x.2.1=true ↔ y.2.1=x.2.1:=Lib.bytes_beq_iff _ _
 rw [Prod.mk.injEq]
 cases h:Qs y.2.1 x.2.1 with
 |true =>
   show decide (y.2.2.1=x.2.2.1)=true ↔ _
   rw [decide_eq_true_eq]
   have:=hs.1 h
   exact ⟨fun h2=>⟨this.symm,h2.symm⟩,fun h2=>h2.2.symm⟩
 |false =>
   show false=true ↔ _
   exact ⟨fun h2=>(by cases h2),fun h2=>(by have:=hs.2 h2.1.symm;rw [h] at this;cases this)⟩
theorem Qo2 {M:List (Den Qff × Den .bool)} {l:List Ins} {k:Nat} {y:Ins} (h:Qui M (l.take k)) (hk:k < l.length) (e:l.getD k (dflt Qaw)=y):Qui (Qaj M (y.2.1,y.2.2.1) true) (l.take (k+1)):=by
 intro x
 rw [Qqv,QaR (dflt Qaw) hk,e,List.any_append]
 have hd:QF Qff (x.2.1,x.2.2.1) (y.2.1,y.2.2.1)=true ↔ (x.2.1,x.2.2.1)=(y.2.1,y.2.2.1):=⟨fun h=>Qc5 rfl h,fun h=>by rw [h];exact QcU rfl⟩
 by_cases hc:QhW x y=true
 ·rw [if_pos (hd.2 (Quj.1 hc))]
  show true=_
  simp [hc]
 ·rw [if_neg (fun h2=>hc (Quj.2 (hd.1 h2))),h x]
  have hc':QhW x y=false:=by simpa using hc
  simp [hc']
set_option maxHeartbeats 4000000 in
theorem QmR:Qi Tryz.prog 62 QjM.spec:=by
 have hP:Qe Tryz.prog _:=Qa Qhj (Qa QmD (Qa Qqr (Qc (T:=tree))))
 have hT:=tabs hP Qf
 refine QjM.good (fn:=Tryz.f62) hT hP Tryz.func62 (by kernel_rfl) rfl fun (c:Cpu) _=>?_
 obtain ⟨cn,ci,cr,cq,cm⟩:=c
 repeat' first |(refine Go.mk ?_;conv=>whnf) |refine Ql.go ?_ ?_ |refine Qm.go (fun _=>?_) (fun _=>?_) |refine Br.dec (fun _=>?_) (fun _=>?_) |refine Br.go (fun _=>?_) (fun _=>?_) |refine Qd hT hP mixed ?_ |refine Qb hT hP ?_
 all_goals (try dsimp only [Qj] at *)
 ·rename_i g
  have g:Qau (bytesOf cn)=false:=by simpa using g
  refine .mk [] [] _ R R R R R R (Qg ?_)
  exact (if_pos g:Qds (cn,ci,cr,cq,cm)=15).symm
 ·rename_i g g2
  have g:Qau (bytesOf cn)=true:=by simpa using g
  have g2:(ci.length:Int) > 256:=g2
  refine .mk [] [] _ R R R R R R (Qg ?_)
  show 2=Qds (cn,ci,cr,cq,cm)
  unfold Qds
  rw [if_neg (by rw [g];decide),if_pos (by show ci.length > 256;omega)]
 rename_i g1 g2
 have g1:Qau (bytesOf cn)=true:=by simpa using g1
 have hn:ci.length≤256:=by have g2:¬ (ci.length:Int) > 256:=g2;omega
 clear g2
 have hC:∀ e:Int,e≠0→QhB ci=e→e=Qds (cn,ci,cr,cq,cm):=fun e h0 h1=>by
  unfold Qds
  rw [if_neg (by rw [g1];decide),if_neg (by show ¬ ci.length > 256;omega),if_pos (by rw [h1];exact h0)];exact h1.symm
 have hT2:QhB ci=0→QhY (cn,ci,cr,cq,cm)=Qds (cn,ci,cr,cq,cm):=fun h1=>by
  unfold Qds
  rw [if_neg (by rw [g1];decide),if_neg (by show ¬ ci.length > 256;omega),if_neg (by rw [h1];decide)]
 refine QO hT hP (A:=Int × List (Den Qff × Den .bool)) ci.length (fun i (a,M)=>St.mk (E1 ((.cell (.ptr 0 0)) :: E1 ((I a) :: (.cell (.map 1)) :: E10 (E5 (E3 ((.cell (.ro Qaw ci)) :: (I ci.length) :: (I i) :: E40 (E40 (E5 (E2 [])))))))))
  [some (.var [.imm (.string cn),.ro Qaw ci,.ro QA cr,.ro QA cq,.ro QA cm]),some (.mp true Qff .bool M)])
  (fun k (a,M)=>Q6 (Qqt ci) ((List.range ci.length).drop k)=QhB ci∧Qui M (ci.take k)∧(0 < k→a=(ci.getD (k-1) (dflt Qaw)).1)) (-1,[]) (Le.mk [] [0,1] R R ?_ ?_) ⟨rfl,fun _=>rfl,fun h=>absurd h (Nat.lt_irrefl _)⟩ fun k (a,M) hk hi=>?_
 ·exact rfl
 ·repeat' first |exact trivial |exact ⟨rfl,rfl⟩ |refine And.intro ?_ ?_
 obtain ⟨hi,hM,ha⟩:=hi
 have hE:∀ e:Int,e≠0→Qqt ci k=e→k < ci.length→e=Qds (cn,ci,cr,cq,cm):=fun e h0 h1 hk=>by
  refine hC e h0 ?_
  have hr:k < (List.range ci.length).length:=by rw [List.length_range];exact hk
  have e1:=Qcb hk
  rw [← hi,QaA 0 hr (by rw [e1,h1];exact h0),e1,h1]
 have hN:Qqt ci k=0→k < ci.length→Q6 (Qqt ci) ((List.range ci.length).drop (k+1))=QhB ci:=fun h1 hk=>by
  have hr:k < (List.range ci.length).length:=by rw [List.length_range];exact hk
  rw [← hi,QaM 0 hr (by rw [Qcb hk,h1])]
 repeat' first |(refine Go.mk ?_;conv=>whnf) |refine Ql.go ?_ ?_ |refine Qm.go (fun _=>?_) (fun _=>?_) |refine Br.dec (fun _=>?_) (fun _=>?_) |refine Br.go (fun _=>?_) (fun _=>?_) |refine Qd hT hP mixed ?_ |refine Qb hT hP ?_
 all_goals (try dsimp only [Qj] at *)
 all_goals (generalize hx:ci.getD (k:Int).toNat (dflt Qaw)=x at *;obtain ⟨xo,xs,xm,xc⟩:=x)
 all_goals (have hx':ci.getD k (dflt Qaw)=(xo,xs,xm,xc):=hx)
 all_goals (have hI:Qqt ci k=Quf (ci.take k) k (ci.getD (k-1) (dflt Qaw)).1 (xo,xs,xm,xc):=by unfold Qqt;rw [hx'])
 all_goals (rw [hI] at hE hN)
 all_goals (generalize (ci.getD (k-1) (dflt Qaw)).1=pv at *)
 all_goals (try dsimp only at *)
 all_goals (have hL:Qf6 (Qaf M (xs,xm)) (dflt .bool)=(ci.take k).any (QhW (xo,xs,xm,xc)):=hM (xo,xs,xm,xc))
 all_goals (try simp only [hL] at *)
 all_goals (try simp only [QID,decide_eq_false_iff_not,decide_eq_true_eq] at *)
 ·show 0≤(k:Int)∧(k:Int) < (ci.length:Int)
  omega
 all_goals first
  |exact .mk [] [] _ R R R R R R (Qg (hE _ (Qcl (x:=QE xc) (by assumption)) (Qo1 (fun h=>by omega) (fun h=>by omega) (fun h=>by omega) (by assumption) (by assumption) (by assumption) (by assumption)) (by omega)))
  |(refine .mk [] [] _ R R R R R R (Qg (hE _ ?_ ?_ (by omega)))
     ·decide
     ·clear hT hP hE hN hC hT2 hi hx hx' hI hM
      simp [Quf] at *
      try first
       |omega
       |(simp_all;done)
       |(simp_all;omega))
  |skip
 ·have hk2:k < ci.length:=by omega
  have hx5:xc.length≤1000:=by
   have h0:(QE xc != 0)=false:=by assumption
   have h1:=Qav h0
   unfold QE at h1
   split at h1
   ·cases h1
   ·omega
  have hno:¬ (xo < 0∨xo > 255):=by assumption
  refine QO hT hP (A:=Int) xc.length (fun j n=>St.mk (E1 ((.cell (.ptr 0 0)) :: E1 ((I xo) :: (.cell (.map 1)) :: E1 ((.cell (.ptr 2 0)) :: E2 ((I n) :: E10 (E3 ((.cell (.ro Qaw ci)) :: (I ci.length) :: (I k) :: E40 (E10 ((.cell (.ro QA xc)) :: (I xc.length) :: (I j) :: E20 (E10 (E3 (E1 []))))))))))))
   [some (.var [.imm (.string cn),.ro Qaw ci,.ro QA cr,.ro QA cq,.ro QA cm]),some (.mp true Qff .bool (Qaj M (xs,xm) true)),some (.var [.imm (.int .i64 xo),.imm (.string xs),.imm (.int .i64 xm),.ro QA xc])])
   (fun j n=>n=(((xc.take j).filter QeA).length:Nat)) 0 (Le.mk [] [0,1,2] R R ?_ ?_) rfl fun j n hj hi2=>?_
  ·exact rfl
  ·repeat' first |exact trivial |exact ⟨rfl,rfl⟩ |refine And.intro ?_ ?_
  repeat' first |(refine Go.mk ?_;conv=>whnf) |refine Ql.go ?_ ?_ |refine Qm.go (fun _=>?_) (fun _=>?_) |refine Br.dec (fun _=>?_) (fun _=>?_) |refine Br.go (fun _=>?_) (fun _=>?_) |refine Qd hT hP mixed ?_ |refine Qb hT hP ?_
  all_goals clear hT hP
  all_goals have hf:=List.length_filter_le QeA (xc.take j)
  all_goals rw [List.length_take] at hf
  ·show 0≤(j:Int)∧(j:Int) < (xc.length:Int)
   omega
  ·rename_i g g1 g2
   have g:(j:Int) < (xc.length:Int):=g
   have h2:QeA (xc.getD j (dflt QA))=true:=by
    have g1:(xc.getD j (dflt QA)).1=1:=g1
    have g2:(xc.getD j (dflt QA)).2.1=0:=g2
    unfold QeA;rw [decide_eq_true g1,decide_eq_true g2];rfl
   apply Exists.intro
   apply Exists.intro _
   refine And.intro (And.intro ?lt170 (And.intro ?ei170 ?inv170)) (Le.mk [] [0,1,2] R R ?hh170 ?ht170)
   case hh170=>exact rfl
   case ht170=>repeat' first |exact trivial |exact ⟨rfl,rfl⟩ |refine And.intro ?_ ?_
   case lt170=>omega
   case ei170=>exact QW (by omega)
   have e:IntKind.i64.wrap (n+1)=n+1:=w64 (by omega) (by omega)
   have e2:=QjK (show j < xc.length by omega) h2
   rw [e];omega
  ·rename_i g g1 g2
   have g:(j:Int) < (xc.length:Int):=g
   have h2:QeA (xc.getD j (dflt QA))=false:=by
    have g1:(xc.getD j (dflt QA)).1=1:=g1
    have g2:¬ (xc.getD j (dflt QA)).2.1=0:=g2
    unfold QeA;rw [decide_eq_true g1,decide_eq_false g2];rfl
   apply Exists.intro
   apply Exists.intro _
   refine And.intro (And.intro ?lt186 (And.intro ?ei186 ?inv186)) (Le.mk [] [0,1,2] R R ?hh186 ?ht186)
   case hh186=>exact rfl
   case ht186=>repeat' first |exact trivial |exact ⟨rfl,rfl⟩ |refine And.intro ?_ ?_
   case lt186=>omega
   case ei186=>exact QW (by omega)
   have e2:=QfO (show j < xc.length by omega) h2
   omega
  ·rename_i g g1
   have g:(j:Int) < (xc.length:Int):=g
   have h2:QeA (xc.getD j (dflt QA))=false:=by
    have g1:¬ (xc.getD j (dflt QA)).1=1:=g1
    unfold QeA;rw [decide_eq_false g1];rfl
   apply Exists.intro
   apply Exists.intro _
   refine And.intro (And.intro ?lt200 (And.intro ?ei200 ?inv200)) (Le.mk [] [0,1,2] R R ?hh200 ?ht200)
   case hh200=>exact rfl
   case ht200=>repeat' first |exact trivial |exact ⟨rfl,rfl⟩ |refine And.intro ?_ ?_
   case lt200=>omega
   case ei200=>exact QW (by omega)
   have e2:=QfO (show j < xc.length by omega) h2
   omega
  ·rename_i g g1
   have e:n=QhX xc:=by rw [hi2,List.take_of_length_le (by omega)];rfl
   have g1:(n != QcB xm)=true:=g1
   rw [e] at g1
   exact .mk [] [] _ R R R R R R (Qg (hE 3 (by decide) (QmP (fun h=>by omega) (fun h=>by omega) (fun h=>by omega) (by assumption) (by assumption) (by assumption) (by assumption) g1) hk2))
  ·rename_i g g1
   have e:n=QhX xc:=by rw [hi2,List.take_of_length_le (by omega)];rfl
   have g1:(n != QcB xm)=false:=g1
   rw [e] at g1
   apply Exists.intro
   apply Exists.intro (xo,Qaj M (xs,xm) true)
   refine And.intro (And.intro ?lt218 (And.intro ?ei218 ?inv218)) (Le.mk [] [0,1] R R ?hh218 ?ht218)
   case hh218=>exact rfl
   case ht218=>repeat' first |exact trivial |exact ⟨rfl,rfl⟩ |refine And.intro ?_ ?_
   case lt218=>omega
   case ei218=>exact QW (by omega)
   exact ⟨hN (QjL (fun h=>by omega) (fun h=>by omega) (fun h=>by omega) (by assumption) (by assumption) (by assumption) (by assumption) g1) hk2,Qo2 hM hk2 hx',fun _=>by rw [Nat.add_sub_cancel,hx']⟩
 ·have hk2:k < ci.length:=by omega
  have hx5:xc.length≤1000:=by
   have h0:(QE xc != 0)=false:=by assumption
   have h1:=Qav h0
   unfold QE at h1
   split at h1
   ·cases h1
   ·omega
  have hno:¬ (xo < 0∨xo > 255):=by assumption
  refine QO hT hP (A:=Int) xc.length (fun j n=>St.mk (E1 ((.cell (.ptr 0 0)) :: E1 ((I xo) :: (.cell (.map 1)) :: E1 ((.cell (.ptr 2 0)) :: E2 ((I n) :: E10 (E3 ((.cell (.ro Qaw ci)) :: (I ci.length) :: (I k) :: E40 (E10 ((.cell (.ro QA xc)) :: (I xc.length) :: (I j) :: E20 (E10 (E3 (E1 []))))))))))))
   [some (.var [.imm (.string cn),.ro Qaw ci,.ro QA cr,.ro QA cq,.ro QA cm]),some (.mp true Qff .bool (Qaj M (xs,xm) true)),some (.var [.imm (.int .i64 xo),.imm (.string xs),.imm (.int .i64 xm),.ro QA xc])])
   (fun j n=>n=(((xc.take j).filter QeA).length:Nat)) 0 (Le.mk [] [0,1,2] R R ?_ ?_) rfl fun j n hj hi2=>?_
  ·exact rfl
  ·repeat' first |exact trivial |exact ⟨rfl,rfl⟩ |refine And.intro ?_ ?_
  repeat' first |(refine Go.mk ?_;conv=>whnf) |refine Ql.go ?_ ?_ |refine Qm.go (fun _=>?_) (fun _=>?_) |refine Br.dec (fun _=>?_) (fun _=>?_) |refine Br.go (fun _=>?_) (fun _=>?_) |refine Qd hT hP mixed ?_ |refine Qb hT hP ?_
  all_goals clear hT hP
  all_goals have hf:=List.length_filter_le QeA (xc.take j)
  all_goals rw [List.length_take] at hf
  ·show 0≤(j:Int)∧(j:Int) < (xc.length:Int)
   omega
  ·rename_i g g1 g2
   have g:(j:Int) < (xc.length:Int):=g
   have h2:QeA (xc.getD j (dflt QA))=true:=by
    have g1:(xc.getD j (dflt QA)).1=1:=g1
    have g2:(xc.getD j (dflt QA)).2.1=0:=g2
    unfold QeA;rw [decide_eq_true g1,decide_eq_true g2];rfl
   apply Exists.intro
   apply Exists.intro _
   refine And.intro (And.intro ?lt252 (And.intro ?ei252 ?inv252)) (Le.mk [] [0,1,2] R R ?hh252 ?ht252)
   case hh252=>exact rfl
   case ht252=>repeat' first |exact trivial |exact ⟨rfl,rfl⟩ |refine And.intro ?_ ?_
   case lt252=>omega
   case ei252=>exact QW (by omega)
   have e:IntKind.i64.wrap (n+1)=n+1:=w64 (by omega) (by omega)
   have e2:=QjK (show j < xc.length by omega) h2
   rw [e];omega
  ·rename_i g g1 g2
   have g:(j:Int) < (xc.length:Int):=g
   have h2:QeA (xc.getD j (dflt QA))=false:=by
    have g1:(xc.getD j (dflt QA)).1=1:=g1
    have g2:¬ (xc.getD j (dflt QA)).2.1=0:=g2
    unfold QeA;rw [decide_eq_true g1,decide_eq_false g2];rfl
   apply Exists.intro
   apply Exists.intro _
   refine And.intro (And.intro ?lt268 (And.intro ?ei268 ?inv268)) (Le.mk [] [0,1,2] R R ?hh268 ?ht268)
   case hh268=>exact rfl
   case ht268=>repeat' first |exact trivial |exact ⟨rfl,rfl⟩ |refine And.intro ?_ ?_
   case lt268=>omega
   case ei268=>exact QW (by omega)
   have e2:=QfO (show j < xc.length by omega) h2
   omega
  ·rename_i g g1
   have g:(j:Int) < (xc.length:Int):=g
   have h2:QeA (xc.getD j (dflt QA))=false:=by
    have g1:¬ (xc.getD j (dflt QA)).1=1:=g1
    unfold QeA;rw [decide_eq_false g1];rfl
   apply Exists.intro
   apply Exists.intro _
   refine And.intro (And.intro ?lt282 (And.intro ?ei282 ?inv282)) (Le.mk [] [0,1,2] R R ?hh282 ?ht282)
   case hh282=>exact rfl
   case ht282=>repeat' first |exact trivial |exact ⟨rfl,rfl⟩ |refine And.intro ?_ ?_
   case lt282=>omega
   case ei282=>exact QW (by omega)
   have e2:=QfO (show j < xc.length by omega) h2
   omega
  ·rename_i g g1
   have e:n=QhX xc:=by rw [hi2,List.take_of_length_le (by omega)];rfl
   have g1:(n != QcB xm)=true:=g1
   rw [e] at g1
   exact .mk [] [] _ R R R R R R (Qg (hE 3 (by decide) (QmP (fun h=>by omega) (fun h=>by omega) (fun h=>by omega) (by assumption) (by assumption) (by assumption) (by assumption) g1) hk2))
  ·rename_i g g1
   have e:n=QhX xc:=by rw [hi2,List.take_of_length_le (by omega)];rfl
   have g1:(n != QcB xm)=false:=g1
   rw [e] at g1
   apply Exists.intro
   apply Exists.intro (xo,Qaj M (xs,xm) true)
   refine And.intro (And.intro ?lt300 (And.intro ?ei300 ?inv300)) (Le.mk [] [0,1] R R ?hh300 ?ht300)
   case hh300=>exact rfl
   case ht300=>repeat' first |exact trivial |exact ⟨rfl,rfl⟩ |refine And.intro ?_ ?_
   case lt300=>omega
   case ei300=>exact QW (by omega)
   exact ⟨hN (QjL (fun h=>by omega) (fun h=>by omega) (fun h=>by omega) (by assumption) (by assumption) (by assumption) (by assumption) g1) hk2,Qo2 hM hk2 hx',fun _=>by rw [Nat.add_sub_cancel,hx']⟩
 ·skip
  have hQ:=hT2 (by rw [← hi,List.drop_of_length_le (by rw [List.length_range];omega)];rfl)
  have gr:QE cr=0:=by assumption
  have gq:QE cq=0:=by assumption
  refine .mk [] [] _ R R R R R R (Qg ?_)
  show QE cm=Qds (cn,ci,cr,cq,cm)
  rw [← hQ]
  refine (((if_pos gr:QhY (cn,ci,cr,cq,cm)=Q6 QE [cq,cm]).trans (if_pos gq:Q6 QE [cq,cm]=Q6 QE [cm])).trans ?_).symm
  by_cases h:QE cm=0
  ·rw [h];exact (if_pos h:Q6 QE [cm]=Q6 QE [])
  ·exact (if_neg h:Q6 QE [cm]=QE cm)
 ·skip
  have hQ:=hT2 (by rw [← hi,List.drop_of_length_le (by rw [List.length_range];omega)];rfl)
  have gr:QE cr=0:=by assumption
  have gq:¬ QE cq=0:=by assumption
  refine .mk [] [] _ R R R R R R (Qg ?_)
  show QE cq=Qds (cn,ci,cr,cq,cm)
  rw [← hQ]
  exact ((if_pos gr:QhY (cn,ci,cr,cq,cm)=Q6 QE [cq,cm]).trans (if_neg gq:Q6 QE [cq,cm]=QE cq)).symm
 ·exact absurd (by assumption:QE cr=0) (by assumption)
 ·skip
  have hQ:=hT2 (by rw [← hi,List.drop_of_length_le (by rw [List.length_range];omega)];rfl)
  have gr:¬ QE cr=0:=by assumption
  refine .mk [] [] _ R R R R R R (Qg ?_)
  show QE cr=Qds (cn,ci,cr,cq,cm)
  rw [← hQ]
  exact (if_neg gr:QhY (cn,ci,cr,cq,cm)=QE cr).symm
set_option maxHeartbeats 8000000 in
theorem QlE:Qi Tryz.prog 18 QjP.spec:=by
 have hP:Qe Tryz.prog _:=Qa Qhj (Qa QmR (Qa Qmu (Qa Qe7 (Qa Qeh (Qc (T:=tree))))))
 have hT:=tabs hP Qf
 refine QjP.good (fn:=Tryz.f18) hT hP Tryz.func18 (by kernel_rfl) rfl fun (b:Bd) hq=>?_
 obtain ⟨⟨⟨hl1,hl2⟩,hcp⟩,hwp⟩:QBy b:=hq _ rfl
 clear hq
 obtain ⟨bn,⟨un,ui,ur,uq,um⟩,bc,bw⟩:=b
 have hl1:bc.length*64≤140737488351232:=hl1
 have hl2:bw.length*32≤140737488351232:=hl2
 have hcp:∀ c ∈ bc,cP c∧c.1.size≤140737488351232:=hcp
 have hwp:∀ w ∈ bw,w.1.size≤140737488351232:=hwp
 obtain ⟨B,hB⟩:∃ B:Bd,B=(bn,(un,ui,ur,uq,um),bc,bw):=⟨_,rfl⟩
 have hBE:Qah (bn,(un,ui,ur,uq,um),bc,bw)=if Qau (bytesOf bn)=false then 15 else if Qds (un,ui,ur,uq,um)≠0 then Qds (un,ui,ur,uq,um) else if bc.length > 12 then 2 else if QaT bc≠0 then QaT bc
  else if bw.length > 40 then 2 else Q6 (QaN (bn,(un,ui,ur,uq,um),bc,bw)) (List.range bw.length):=rfl
 repeat' first |(refine Go.mk ?_;conv=>whnf) |refine Ql.go ?_ ?_ |refine Qm.go (fun _=>?_) (fun _=>?_) |refine Br.dec (fun _=>?_) (fun _=>?_) |refine Br.go (fun _=>?_) (fun _=>?_) |refine Qd hT hP mixed ?_ |refine Qb hT hP ?_
 all_goals (try dsimp only [Qj] at *)
 ·rename_i g
  have g:Qau (bytesOf bn)=false:=by simpa using g
  refine .mk [] [] _ R R R R R R (Qg ?_)
  rw [hBE,if_pos g]
 ·rename_i g g2
  have g:Qau (bytesOf bn)=true:=by simpa using g
  have g2:=Qcl (x:=Qds (un,ui,ur,uq,um)) g2
  refine .mk [] [] _ R R R R R R (Qg ?_)
  rw [hBE,if_neg (by rw [g];decide),if_pos g2]
 ·rename_i g g2 g3
  have g:Qau (bytesOf bn)=true:=by simpa using g
  have g2:=Qav (x:=Qds (un,ui,ur,uq,um)) g2
  have g3:(bc.length:Int) > 12:=g3
  refine .mk [] [] _ R R R R R R (Qg ?_)
  rw [hBE,if_neg (by rw [g];decide),if_neg (fun h=>h g2),if_pos (by omega)]
 rename_i g g2 g3
 have g:Qau (bytesOf bn)=true:=by simpa using g
 have g2:=Qav (x:=Qds (un,ui,ur,uq,um)) g2
 have g3:¬ (bc.length:Int) > 12:=g3
 rw [if_neg (by rw [g];decide),if_neg (fun h=>h g2),if_neg (by omega)] at hBE
 refine QO hT hP (A:=Unit) bc.length (fun i _=>St.mk (E1 ((.cell (.ptr 0 0)) :: E20 (E10 ((.cell (.ro Qh bc)) :: (I bc.length) :: (I i) :: E40 (E40 (E20 (E3 (E1 []))))))))
  [some (.var [.imm (.string bn),.imm (.string un),.ro Qaw ui,.ro QA ur,.ro QA uq,.ro QA um,.ro Qh bc,.ro Qx bw])])
  (fun k _=>Q6 (fun k=>Qba (bc.take k) (bc.getD k (dflt Qh))) ((List.range bc.length).drop k)=QaT bc∧∀ y ∈ bc.take k,QX y=0) () (Le.mk [] [0] R R ?_ ?_) ⟨rfl,fun y hy=>by simp at hy⟩ fun k _ hk ⟨hi,hbef⟩=>?_
 ·exact rfl
 ·repeat' first |exact trivial |exact ⟨rfl,rfl⟩ |refine And.intro ?_ ?_
 have hcb:∀ e:Int,QaT bc=e→e≠0→e=Qah (bn,(un,ui,ur,uq,um),bc,bw):=fun e h1 h2=>by
  rw [hBE,if_pos (by rw [h1];exact h2),h1]
 repeat' first |(refine Go.mk ?_;conv=>whnf) |refine Ql.go ?_ ?_ |refine Qm.go (fun _=>?_) (fun _=>?_) |refine Br.dec (fun _=>?_) (fun _=>?_) |refine Br.go (fun _=>?_) (fun _=>?_) |refine Qd hT hP mixed ?_ |refine Qb hT hP ?_
 all_goals (try dsimp only [Qj] at *)
 ·show 0≤(k:Int)∧(k:Int) < (bc.length:Int)
  omega
 ·rename_i g4
  have g4:(k:Int) < (bc.length:Int):=g4
  exact (hcp _ (QQ (dflt Qh) (show k < bc.length by omega))).1
 ·rename_i g4 g5
  have g4:(k:Int) < (bc.length:Int):=g4
  have g5:(QX (bc.getD k (dflt Qh)) != 0)=true:=g5
  have hs:=(Qdh (e:=0) (show k < bc.length by omega) hi).1
  have e:Qba (bc.take k) (bc.getD k (dflt Qh))=QX (bc.getD k (dflt Qh)):=if_pos (Qcl g5)
  rw [e] at hs
  exact .mk [] [] _ R R R R R R (Qg (hcb _ (hs (Qcl g5)).symm (Qcl g5)))
 ·show 0≤(k:Int)∧(k:Int)≤(bc.length:Int)
  omega
 ·rename_i g4 g5
  have g4:(k:Int) < (bc.length:Int):=g4
  have g5:(QX (bc.getD k (dflt Qh)) != 0)=false:=g5
  have hs:=Qdh (e:=0) (show k < bc.length by omega) hi
  have e:Qba (bc.take k) (bc.getD k (dflt Qh))=Q6 (Qa4 (bc.getD k (dflt Qh))) (bc.take k):=if_neg (fun h=>h (Qav g5))
  rw [e] at hs
  have hx:bc.getD (k:Int).toNat (dflt Qh)=bc.getD k (dflt Qh):=rfl
  have hbef':∀ y ∈ bc.take (k+1),QX y=0:=fun y hy=>by
   rw [QaR (dflt Qh) (show k < bc.length by omega)] at hy
   rcases List.mem_append.1 hy with hy |hy
   ·exact hbef y hy
   ·rw [List.mem_singleton.1 hy];exact Qav g5
  have htl:(bc.take k).length=k:=by rw [List.length_take];omega
  have hts:((bc.take (k:Int).toNat).drop 0)=bc.take k:=rfl
  rw [hts,hx]
  have hpre:∀ y ∈ bc.take k,QX y=0:=hbef
  generalize bc.getD k (dflt Qh)=x at *
  obtain ⟨xn,xk,xb,xs,xd⟩:=x
  generalize bc.take k=pre at *
  refine QO hT hP (A:=Unit) pre.length (fun j _=>St.mk (E1 ((.cell (.ptr 0 0)) :: E3 ((.cell (.ptr 1 0)) :: E20 (E5 (E1 ((.cell (.ro Qh bc)) :: (I bc.length) :: (I k) :: E10 (E2 ((.cell (.ro Qh pre)) :: (I pre.length) :: (I j) :: E40 (E40 (E5 (E3 (E1 []))))))))))))
   [some (.var [.imm (.string bn),.imm (.string un),.ro Qaw ui,.ro QA ur,.ro QA uq,.ro QA um,.ro Qh bc,.ro Qx bw]),some (.var [.imm (.string xn),iv .i64 xk,iv .i64 xb,iv .i64 xs,.ro (.int .u8) xd])])
   (fun j _=>Q6 (Qa4 (xn,xk,xb,xs,xd)) (pre.drop j)=Q6 (Qa4 (xn,xk,xb,xs,xd)) pre) () (Le.mk [] [0,1] R R ?_ ?_) rfl fun j _ hj hi2=>?_
  ·exact rfl
  ·repeat' first |exact trivial |exact ⟨rfl,rfl⟩ |refine And.intro ?_ ?_
  repeat' first |(refine Go.mk ?_;conv=>whnf) |refine Ql.go ?_ ?_ |refine Qm.go (fun _=>?_) (fun _=>?_) |refine Br.dec (fun _=>?_) (fun _=>?_) |refine Br.go (fun _=>?_) (fun _=>?_) |refine Qd hT hP mixed ?_ |refine Qb hT hP ?_
  all_goals (try dsimp only [Qj] at *)
  all_goals clear hT hP
  all_goals (generalize hy:pre.getD (j:Int).toNat (dflt Qh)=y at *;obtain ⟨yn,yk,yb,ys,yd⟩:=y)
  all_goals (replace hy:pre.getD j (dflt Qh)=(yn,yk,yb,ys,yd):=hy)
  all_goals (have hok:Qa4 (xn,xk,xb,xs,xd) (yn,yk,yb,ys,yd)=0→(j:Int) < (pre.length:Int)→Q6 (Qa4 (xn,xk,xb,xs,xd)) (pre.drop (j+1))=Q6 (Qa4 (xn,xk,xb,xs,xd)) pre:=fun h0 h1=>(QaM (f:=Qa4 (xn,xk,xb,xs,xd)) (dflt Qh) (show j < pre.length by omega) (by rw [hy,h0])).symm.trans hi2)
  ·show 0≤(j:Int)∧(j:Int) < (pre.length:Int)
   omega
  ·rename_i g6 g7
   have g6:(j:Int) < (pre.length:Int):=g6
   have g7:Qs xn yn=true:=g7
   have g7:Qs yn xn=true:=QH.2 (QH.1 g7).symm
   have e5:Qa4 (xn,xk,xb,xs,xd) (yn,yk,yb,ys,yd)=5:=if_pos g7
   have e6:=QaA (f:=Qa4 (xn,xk,xb,xs,xd)) (dflt Qh) (show j < pre.length by omega) (by rw [hy,e5];decide)
   rw [hy,e5,hi2] at e6
   rw [e6] at hs
   exact .mk [] [] _ R R R R R R (Qg (hcb _ (hs.1 (by decide)).symm (by decide)))
  ·rename_i g6 g7 g8
   have g6:(j:Int) < (pre.length:Int):=g6
   have g7:Qs xn yn=false:=g7
   have g7':¬ Qs yn xn=true:=fun h=>by rw [QH.2 (QH.1 h).symm] at g7;cases g7
   have hyE:QX (yn,yk,yb,ys,yd)=0:=by rw [← hy];exact hpre _ (QQ (dflt Qh) (show j < pre.length by omega))
   have g8:=(Qlx (c:=(xn,xk,xb,xs,xd)) (d:=(yn,yk,yb,ys,yd)) (Qav g5) hyE).1 g8
   have e5:Qa4 (xn,xk,xb,xs,xd) (yn,yk,yb,ys,yd)=16:=by
    unfold Qa4
    rw [if_neg g7',if_pos g8]
   have e6:=QaA (f:=Qa4 (xn,xk,xb,xs,xd)) (dflt Qh) (show j < pre.length by omega) (by rw [hy,e5];decide)
   rw [hy,e5,hi2] at e6
   rw [e6] at hs
   exact .mk [] [] _ R R R R R R (Qg (hcb _ (hs.1 (by decide)).symm (by decide)))
  ·rename_i g6 g7 g8
   have g6:(j:Int) < (pre.length:Int):=g6
   have g7:Qs xn yn=false:=g7
   have g7':¬ Qs yn xn=true:=fun h=>by rw [QH.2 (QH.1 h).symm] at g7;cases g7
   have hyE:QX (yn,yk,yb,ys,yd)=0:=by rw [← hy];exact hpre _ (QQ (dflt Qh) (show j < pre.length by omega))
   have g8:=fun h=>g8 ((Qlx (c:=(xn,xk,xb,xs,xd)) (d:=(yn,yk,yb,ys,yd)) (Qav g5) hyE).2 h)
   apply Exists.intro
   apply Exists.intro ()
   refine And.intro (And.intro ?lt131 (And.intro ?ei131 ?inv131)) (Le.mk [] [0,1] R R ?hh131 ?ht131)
   case hh131=>exact rfl
   case ht131=>repeat' first |exact trivial |exact ⟨rfl,rfl⟩ |refine And.intro ?_ ?_
   case lt131=>omega
   case ei131=>exact QW (by omega)
   refine hok ?_ g6
   unfold Qa4
   rw [if_neg g7',if_neg g8]
  ·rename_i g6
   have g6:¬ (j:Int) < (pre.length:Int):=g6
   have e0:Q6 (Qa4 (xn,xk,xb,xs,xd)) pre=0:=by
    rw [← hi2,List.drop_of_length_le (by omega)];rfl
   apply Exists.intro
   apply Exists.intro ()
   refine And.intro (And.intro ?lt145 (And.intro ?ei145 ?inv145)) (Le.mk [] [0] R R ?hh145 ?ht145)
   case hh145=>exact rfl
   case ht145=>repeat' first |exact trivial |exact ⟨rfl,rfl⟩ |refine And.intro ?_ ?_
   case lt145=>omega
   case ei145=>exact QW (by omega)
   exact ⟨hs.2 e0,hbef'⟩
 ·rename_i g4 g5
  have g4:¬ (k:Int) < (bc.length:Int):=g4
  have g5:(bw.length:Int) > 40:=g5
  have h0:QaT bc=0:=by
   rw [← hi,List.drop_of_length_le (by rw [List.length_range];omega)];rfl
  refine .mk [] [] _ R R R R R R (Qg ?_)
  rw [hBE,if_neg (fun h=>h h0),if_pos (by omega)]
 rename_i g4 g5
 have g4:¬ (k:Int) < (bc.length:Int):=g4
 have g5:¬ (bw.length:Int) > 40:=g5
 have h0:QaT bc=0:=by
  rw [← hi,List.drop_of_length_le (by rw [List.length_range];omega)];rfl
 rw [if_neg (fun h=>h h0),if_neg (by omega)] at hBE
 clear hi hcb
 refine QO hT hP (A:=List (Den Qx × Den .bool)) bw.length (fun i M=>St.mk (E1 ((.cell (.ptr 0 0)) :: E5 (E2 ((.cell (.map 1)) :: E40 (E20 (E10 (E3 ((.cell (.ro Qx bw)) :: (I bw.length) :: (I i) :: E40 (E10 (E3 []))))))))))
  [some (.var [.imm (.string bn),.imm (.string un),.ro Qaw ui,.ro QA ur,.ro QA uq,.ro QA um,.ro Qh bc,.ro Qx bw]),some (.mp true Qx .bool M)])
  (fun k M=>Q6 (QaN (bn,(un,ui,ur,uq,um),bc,bw)) ((List.range bw.length).drop k)=Q6 (QaN (bn,(un,ui,ur,uq,um),bc,bw)) (List.range bw.length)∧QBa M (bw.take k)) [] (Le.mk [] [0,1] R R ?_ ?_) ⟨rfl,fun _=>rfl⟩ fun q M hq ⟨hj,hM⟩=>?_
 ·exact rfl
 ·repeat' first |exact trivial |exact ⟨rfl,rfl⟩ |refine And.intro ?_ ?_
 have hA:QaN (bn,(un,ui,ur,uq,um),bc,bw) q=if Qa3 (bn,(un,ui,ur,uq,um),bc,bw) (bw.getD q (dflt Qx))≠0 then Qa3 (bn,(un,ui,ur,uq,um),bc,bw) (bw.getD q (dflt Qx)) else if (bw.take q).any (QcC (bw.getD q (dflt Qx)))=true then 5 else 0:=rfl
 have hs:=fun h=>QhC (b:=(bn,(un,ui,ur,uq,um),bc,bw)) (k:=q) h hj
 rw [hA] at hs
 have hsz:=fun h:q < bw.length=>hwp _ (QQ (dflt Qx) h)
 repeat' first |(refine Go.mk ?_;conv=>whnf) |refine Ql.go ?_ ?_ |refine Qm.go (fun _=>?_) (fun _=>?_) |refine Br.dec (fun _=>?_) (fun _=>?_) |refine Br.go (fun _=>?_) (fun _=>?_) |refine Qd hT hP mixed ?_ |refine Qb hT hP ?_
 all_goals (try dsimp only [Qj] at *)
 all_goals (generalize hw:bw.getD (q:Int).toNat (dflt Qx)=w at *;obtain ⟨wf,wt⟩:=w)
 all_goals (replace hw:bw.getD q (dflt Qx)=(wf,wt):=hw)
 all_goals (rw [hw] at hs hsz)
 all_goals (have hWE:Qa3 (bn,(un,ui,ur,uq,um),bc,bw) (wf,wt)=if Qby (nmB (Qdn wf)) bc < 0 then 4 else if Qs (cutA wf) Qxj=false∨Qho (bc.getD (Qby (nmB (Qdn wf)) bc).toNat (dflt Qh)).2.1=false then 8 else if Qs wt Qa1=false then 20 else 0:=rfl)
 ·show 0≤(q:Int)∧(q:Int) < (bw.length:Int)
  omega
 ·rename_i g6 g7
  have g7:QbA wf≥0:=g7
  have:=QhA g7
  show 0≤QbA wf∧QbA wf≤(wf.size:Int)
  omega
 ·rename_i g6 g7
  have g6:(q:Int) < (bw.length:Int):=g6
  have hs:=hs (by show q < bw.length;omega)
  have hsz:wf.size≤140737488351232:=hsz (by omega)
  have g7:QbA wf≥0:=g7
  have hnm:Qdn wf=(wf.extract 0 (QbA wf).toNat):=if_pos g7
  have hns:((wf.extract 0 (QbA wf).toNat)).size≤140737488351232:=by rw [ByteArray.size_extract];omega
  refine QO hT hP (A:=Int) bc.length (fun j kd=>St.mk (E1 ((.cell (.ptr 0 0)) :: E5 (E2 ((.cell (.map 1)) :: E1 ((.cell (.ptr 2 0)) :: (.cell (.imm (.string (wf.extract 0 (QbA wf).toNat)))) :: E1 ((I kd) :: E40 (E20 (E5 (E3 ((.cell (.ro Qx bw)) :: (I bw.length) :: (I q) :: E10 (E5 ((.cell (.ro Qh bc)) :: (I bc.length) :: (I j) :: E20 (E10 (E5 []))))))))))))))
   [some (.var [.imm (.string bn),.imm (.string un),.ro Qaw ui,.ro QA ur,.ro QA uq,.ro QA um,.ro Qh bc,.ro Qx bw]),some (.mp true Qx .bool M),some (.var [.imm (.string wf),.imm (.string wt)])])
   (fun j kd=>kd=QhZ (wf.extract 0 (QbA wf).toNat) (bc.take j)) (-1) (Le.mk [] [0,1,2] R R ?_ ?_) rfl fun j kd hj3 hkd=>?_
  ·exact rfl
  ·repeat' first |exact trivial |exact ⟨rfl,rfl⟩ |refine And.intro ?_ ?_
  have hk2:j=bc.length→kd=QhZ (wf.extract 0 (QbA wf).toNat) bc:=fun e=>by rw [hkd,e,List.take_length]
  repeat' first |(refine Go.mk ?_;conv=>whnf) |refine Ql.go ?_ ?_ |refine Qm.go (fun _=>?_) (fun _=>?_) |refine Br.dec (fun _=>?_) (fun _=>?_) |refine Br.go (fun _=>?_) (fun _=>?_) |refine Qd hT hP mixed ?_ |refine Qb hT hP ?_
  all_goals (try dsimp only [Qj] at *)
  all_goals clear hT hP
  ·show 0≤(j:Int)∧(j:Int) < (bc.length:Int)
   omega
  ·rename_i g8 g9
   have g8:(j:Int) < (bc.length:Int):=g8
   have g9:Qs (bc.getD j (dflt Qh)).1 (wf.extract 0 (QbA wf).toNat)=true:=g9
   apply Exists.intro
   apply Exists.intro _
   refine And.intro (And.intro ?lt210 (And.intro ?ei210 ?inv210)) (Le.mk [] [0,1,2] R R ?hh210 ?ht210)
   case hh210=>exact rfl
   case ht210=>repeat' first |exact trivial |exact ⟨rfl,rfl⟩ |refine And.intro ?_ ?_
   case lt210=>omega
   case ei210=>exact QW (by omega)
   rw [Qd7 (show j < bc.length by omega)]
   exact (if_pos g9).symm
  ·rename_i g8 g9
   have g8:(j:Int) < (bc.length:Int):=g8
   have g9:Qs (bc.getD j (dflt Qh)).1 (wf.extract 0 (QbA wf).toNat)=false:=g9
   apply Exists.intro
   apply Exists.intro _
   refine And.intro (And.intro ?lt222 (And.intro ?ei222 ?inv222)) (Le.mk [] [0,1,2] R R ?hh222 ?ht222)
   case hh222=>exact rfl
   case ht222=>repeat' first |exact trivial |exact ⟨rfl,rfl⟩ |refine And.intro ?_ ?_
   case lt222=>omega
   case ei222=>exact QW (by omega)
   rw [Qd7 (show j < bc.length by omega),hkd]
   exact (if_neg (by rw [g9];decide)).symm
  ·rename_i g8 g9
   have g8:¬ (j:Int) < (bc.length:Int):=g8
   have hk3:=hk2 (by omega)
   have g9:kd < 0:=g9
   rw [hk3,Qfe h0] at g9
   have e4:Qa3 (bn,(un,ui,ur,uq,um),bc,bw) (wf,wt)=4:=by rw [hWE,hnm,if_pos g9]
   rw [e4,if_pos (by decide)] at hs
   refine .mk [] [] _ R R R R R R (Qg ?_)
   rw [hBE,← hs.1 (by decide)]
  ·show ((wf.extract 0 (QbA wf).toNat)).size+4 < 4611686018427387904
   omega
  all_goals (have hk3:=fun h:¬ (j:Int) < (bc.length:Int)=>hk2 (by omega))
  all_goals (
   have hF:¬ kd < 0→¬ (j:Int) < (bc.length:Int)→(¬ Qby (nmB (Qdn wf)) bc < 0)∧kd=(bc.getD (Qby (nmB (Qdn wf)) bc).toNat (dflt Qh)).2.1:=fun h1 h2=>by
    have e:=hk3 h2
    have h4:¬ Qby (nmB (Qdn wf)) bc < 0:=fun h=>h1 (by rw [hnm] at h;rw [e,Qfe h0];exact h)
    refine ⟨h4,?_⟩
    rw [hnm] at h4 ⊢
    rw [e,QjO (QdN h0),if_neg h4])
  all_goals (have hp:=QyR wf;rw [hnm] at hp)
  ·rename_i g8 g9 g10
   obtain ⟨f1,f2⟩:=hF g9 g8
   have g10:(!Qs wf ((wf.extract 0 (QbA wf).toNat)++Qgu))=true:=g10
   rw [hp] at g10
   have e4:Qa3 (bn,(un,ui,ur,uq,um),bc,bw) (wf,wt)=8:=by rw [hWE,if_neg f1,if_pos (.inl (by simpa using g10))]
   rw [e4,if_pos (by decide)] at hs
   refine .mk [] [] _ R R R R R R (Qg ?_)
   rw [hBE,← hs.1 (by decide)]
  ·rename_i g8 g9 g10 g11
   obtain ⟨f1,f2⟩:=hF g9 g8
   have g11:(!Qho kd)=true:=g11
   rw [f2] at g11
   have e4:Qa3 (bn,(un,ui,ur,uq,um),bc,bw) (wf,wt)=8:=by rw [hWE,if_neg f1,if_pos (.inr (by simpa using g11))]
   rw [e4,if_pos (by decide)] at hs
   refine .mk [] [] _ R R R R R R (Qg ?_)
   rw [hBE,← hs.1 (by decide)]
  ·rename_i g8 g9 g10 g11 g12
   obtain ⟨f1,f2⟩:=hF g9 g8
   have g10:(!Qs wf ((wf.extract 0 (QbA wf).toNat)++Qgu))=false:=g10
   rw [hp] at g10
   have g11:(!Qho kd)=false:=g11
   rw [f2] at g11
   have g12:(!Qs wt Qa1)=true:=g12
   have e4:Qa3 (bn,(un,ui,ur,uq,um),bc,bw) (wf,wt)=20:=by
    rw [hWE,if_neg f1,if_neg (fun h=>h.elim (fun h=>by rw [h] at g10;cases g10) (fun h=>by rw [h] at g11;cases g11)),if_pos (by simpa using g12)]
   rw [e4,if_pos (by decide)] at hs
   refine .mk [] [] _ R R R R R R (Qg ?_)
   rw [hBE,← hs.1 (by decide)]
  ·rename_i g8 g9 g10 g11 g12 g13
   obtain ⟨f1,f2⟩:=hF g9 g8
   have g10:(!Qs wf ((wf.extract 0 (QbA wf).toNat)++Qgu))=false:=g10
   rw [hp] at g10
   have g11:(!Qho kd)=false:=g11
   rw [f2] at g11
   have g12:(!Qs wt Qa1)=false:=g12
   have g13:Qf6 (Qaf M (wf,wt)) (dflt .bool)=true:=g13
   have g13:(bw.take q).any (QcC (wf,wt))=true:=(hM (wf,wt)).symm.trans g13
   have e4:Qa3 (bn,(un,ui,ur,uq,um),bc,bw) (wf,wt)=0:=by
    rw [hWE,if_neg f1,if_neg (fun h=>h.elim (fun h=>by rw [h] at g10;cases g10) (fun h=>by rw [h] at g11;cases g11)),if_neg (fun h=>by rw [h] at g12;cases g12)]
   rw [e4,if_neg (by decide),if_pos g13] at hs
   refine .mk [] [] _ R R R R R R (Qg ?_)
   rw [hBE,← hs.1 (by decide)]
  ·rename_i g8 g9 g10 g11 g12 g13
   obtain ⟨f1,f2⟩:=hF g9 g8
   have g10:(!Qs wf ((wf.extract 0 (QbA wf).toNat)++Qgu))=false:=g10
   rw [hp] at g10
   have g11:(!Qho kd)=false:=g11
   rw [f2] at g11
   have g12:(!Qs wt Qa1)=false:=g12
   have g13:Qf6 (Qaf M (wf,wt)) (dflt .bool)=false:=g13
   have g13:(bw.take q).any (QcC (wf,wt))=false:=(hM (wf,wt)).symm.trans g13
   have e4:Qa3 (bn,(un,ui,ur,uq,um),bc,bw) (wf,wt)=0:=by
    rw [hWE,if_neg f1,if_neg (fun h=>h.elim (fun h=>by rw [h] at g10;cases g10) (fun h=>by rw [h] at g11;cases g11)),if_neg (fun h=>by rw [h] at g12;cases g12)]
   rw [e4,if_neg (by decide),if_neg (by rw [g13];decide)] at hs
   apply Exists.intro
   apply Exists.intro (Qaj M (wf,wt) true)
   refine And.intro (And.intro ?lt305 (And.intro ?ei305 ?inv305)) (Le.mk [] [0,1] R R ?hh305 ?ht305)
   case hh305=>exact rfl
   case ht305=>repeat' first |exact trivial |exact ⟨rfl,rfl⟩ |refine And.intro ?_ ?_
   case lt305=>omega
   case ei305=>exact QW (by omega)
   exact ⟨hs.2 rfl,QlD hM (by omega) hw⟩
 ·rename_i g6 g7
  have g6:(q:Int) < (bw.length:Int):=g6
  have hs:=hs (by show q < bw.length;omega)
  have hsz:wf.size≤140737488351232:=hsz (by omega)
  have g7:¬ QbA wf≥0:=g7
  have hnm:Qdn wf=wf:=if_neg g7
  have hns:(wf).size≤140737488351232:=hsz
  refine QO hT hP (A:=Int) bc.length (fun j kd=>St.mk (E1 ((.cell (.ptr 0 0)) :: E5 (E2 ((.cell (.map 1)) :: E1 ((.cell (.ptr 2 0)) :: (.cell (.imm (.string wf))) :: E1 ((I kd) :: E40 (E20 (E5 (E3 ((.cell (.ro Qx bw)) :: (I bw.length) :: (I q) :: E10 (E5 ((.cell (.ro Qh bc)) :: (I bc.length) :: (I j) :: E20 (E10 (E5 []))))))))))))))
   [some (.var [.imm (.string bn),.imm (.string un),.ro Qaw ui,.ro QA ur,.ro QA uq,.ro QA um,.ro Qh bc,.ro Qx bw]),some (.mp true Qx .bool M),some (.var [.imm (.string wf),.imm (.string wt)])])
   (fun j kd=>kd=QhZ wf (bc.take j)) (-1) (Le.mk [] [0,1,2] R R ?_ ?_) rfl fun j kd hj3 hkd=>?_
  ·exact rfl
  ·repeat' first |exact trivial |exact ⟨rfl,rfl⟩ |refine And.intro ?_ ?_
  have hk2:j=bc.length→kd=QhZ wf bc:=fun e=>by rw [hkd,e,List.take_length]
  repeat' first |(refine Go.mk ?_;conv=>whnf) |refine Ql.go ?_ ?_ |refine Qm.go (fun _=>?_) (fun _=>?_) |refine Br.dec (fun _=>?_) (fun _=>?_) |refine Br.go (fun _=>?_) (fun _=>?_) |refine Qd hT hP mixed ?_ |refine Qb hT hP ?_
  all_goals (try dsimp only [Qj] at *)
  all_goals clear hT hP
  ·show 0≤(j:Int)∧(j:Int) < (bc.length:Int)
   omega
  ·rename_i g8 g9
   have g8:(j:Int) < (bc.length:Int):=g8
   have g9:Qs (bc.getD j (dflt Qh)).1 wf=true:=g9
   apply Exists.intro
   apply Exists.intro _
   refine And.intro (And.intro ?lt334 (And.intro ?ei334 ?inv334)) (Le.mk [] [0,1,2] R R ?hh334 ?ht334)
   case hh334=>exact rfl
   case ht334=>repeat' first |exact trivial |exact ⟨rfl,rfl⟩ |refine And.intro ?_ ?_
   case lt334=>omega
   case ei334=>exact QW (by omega)
   rw [Qd7 (show j < bc.length by omega)]
   exact (if_pos g9).symm
  ·rename_i g8 g9
   have g8:(j:Int) < (bc.length:Int):=g8
   have g9:Qs (bc.getD j (dflt Qh)).1 wf=false:=g9
   apply Exists.intro
   apply Exists.intro _
   refine And.intro (And.intro ?lt346 (And.intro ?ei346 ?inv346)) (Le.mk [] [0,1,2] R R ?hh346 ?ht346)
   case hh346=>exact rfl
   case ht346=>repeat' first |exact trivial |exact ⟨rfl,rfl⟩ |refine And.intro ?_ ?_
   case lt346=>omega
   case ei346=>exact QW (by omega)
   rw [Qd7 (show j < bc.length by omega),hkd]
   exact (if_neg (by rw [g9];decide)).symm
  ·rename_i g8 g9
   have g8:¬ (j:Int) < (bc.length:Int):=g8
   have hk3:=hk2 (by omega)
   have g9:kd < 0:=g9
   rw [hk3,Qfe h0] at g9
   have e4:Qa3 (bn,(un,ui,ur,uq,um),bc,bw) (wf,wt)=4:=by rw [hWE,hnm,if_pos g9]
   rw [e4,if_pos (by decide)] at hs
   refine .mk [] [] _ R R R R R R (Qg ?_)
   rw [hBE,← hs.1 (by decide)]
  ·show (wf).size+4 < 4611686018427387904
   omega
  all_goals (have hk3:=fun h:¬ (j:Int) < (bc.length:Int)=>hk2 (by omega))
  all_goals (
   have hF:¬ kd < 0→¬ (j:Int) < (bc.length:Int)→(¬ Qby (nmB (Qdn wf)) bc < 0)∧kd=(bc.getD (Qby (nmB (Qdn wf)) bc).toNat (dflt Qh)).2.1:=fun h1 h2=>by
    have e:=hk3 h2
    have h4:¬ Qby (nmB (Qdn wf)) bc < 0:=fun h=>h1 (by rw [hnm] at h;rw [e,Qfe h0];exact h)
    refine ⟨h4,?_⟩
    rw [hnm] at h4 ⊢
    rw [e,QjO (QdN h0),if_neg h4])
  all_goals (have hp:=QyR wf;rw [hnm] at hp)
  ·rename_i g8 g9 g10
   obtain ⟨f1,f2⟩:=hF g9 g8
   have g10:(!Qs wf (wf++Qgu))=true:=g10
   rw [hp] at g10
   have e4:Qa3 (bn,(un,ui,ur,uq,um),bc,bw) (wf,wt)=8:=by rw [hWE,if_neg f1,if_pos (.inl (by simpa using g10))]
   rw [e4,if_pos (by decide)] at hs
   refine .mk [] [] _ R R R R R R (Qg ?_)
   rw [hBE,← hs.1 (by decide)]
  ·rename_i g8 g9 g10 g11
   obtain ⟨f1,f2⟩:=hF g9 g8
   have g11:(!Qho kd)=true:=g11
   rw [f2] at g11
   have e4:Qa3 (bn,(un,ui,ur,uq,um),bc,bw) (wf,wt)=8:=by rw [hWE,if_neg f1,if_pos (.inr (by simpa using g11))]
   rw [e4,if_pos (by decide)] at hs
   refine .mk [] [] _ R R R R R R (Qg ?_)
   rw [hBE,← hs.1 (by decide)]
  ·rename_i g8 g9 g10 g11 g12
   obtain ⟨f1,f2⟩:=hF g9 g8
   have g10:(!Qs wf (wf++Qgu))=false:=g10
   rw [hp] at g10
   have g11:(!Qho kd)=false:=g11
   rw [f2] at g11
   have g12:(!Qs wt Qa1)=true:=g12
   have e4:Qa3 (bn,(un,ui,ur,uq,um),bc,bw) (wf,wt)=20:=by
    rw [hWE,if_neg f1,if_neg (fun h=>h.elim (fun h=>by rw [h] at g10;cases g10) (fun h=>by rw [h] at g11;cases g11)),if_pos (by simpa using g12)]
   rw [e4,if_pos (by decide)] at hs
   refine .mk [] [] _ R R R R R R (Qg ?_)
   rw [hBE,← hs.1 (by decide)]
  ·rename_i g8 g9 g10 g11 g12 g13
   obtain ⟨f1,f2⟩:=hF g9 g8
   have g10:(!Qs wf (wf++Qgu))=false:=g10
   rw [hp] at g10
   have g11:(!Qho kd)=false:=g11
   rw [f2] at g11
   have g12:(!Qs wt Qa1)=false:=g12
   have g13:Qf6 (Qaf M (wf,wt)) (dflt .bool)=true:=g13
   have g13:(bw.take q).any (QcC (wf,wt))=true:=(hM (wf,wt)).symm.trans g13
   have e4:Qa3 (bn,(un,ui,ur,uq,um),bc,bw) (wf,wt)=0:=by
    rw [hWE,if_neg f1,if_neg (fun h=>h.elim (fun h=>by rw [h] at g10;cases g10) (fun h=>by rw [h] at g11;cases g11)),if_neg (fun h=>by rw [h] at g12;cases g12)]
   rw [e4,if_neg (by decide),if_pos g13] at hs
   refine .mk [] [] _ R R R R R R (Qg ?_)
   rw [hBE,← hs.1 (by decide)]
  ·rename_i g8 g9 g10 g11 g12 g13
   obtain ⟨f1,f2⟩:=hF g9 g8
   have g10:(!Qs wf (wf++Qgu))=false:=g10
   rw [hp] at g10
   have g11:(!Qho kd)=false:=g11
   rw [f2] at g11
   have g12:(!Qs wt Qa1)=false:=g12
   have g13:Qf6 (Qaf M (wf,wt)) (dflt .bool)=false:=g13
   have g13:(bw.take q).any (QcC (wf,wt))=false:=(hM (wf,wt)).symm.trans g13
   have e4:Qa3 (bn,(un,ui,ur,uq,um),bc,bw) (wf,wt)=0:=by
    rw [hWE,if_neg f1,if_neg (fun h=>h.elim (fun h=>by rw [h] at g10;cases g10) (fun h=>by rw [h] at g11;cases g11)),if_neg (fun h=>by rw [h] at g12;cases g12)]
   rw [e4,if_neg (by decide),if_neg (by rw [g13];decide)] at hs
   apply Exists.intro
   apply Exists.intro (Qaj M (wf,wt) true)
   refine And.intro (And.intro ?lt429 (And.intro ?ei429 ?inv429)) (Le.mk [] [0,1] R R ?hh429 ?ht429)
   case hh429=>exact rfl
   case ht429=>repeat' first |exact trivial |exact ⟨rfl,rfl⟩ |refine And.intro ?_ ?_
   case lt429=>omega
   case ei429=>exact QW (by omega)
   exact ⟨hs.2 rfl,QlD hM (by omega) hw⟩
 ·rename_i g6
  have g6:¬ (q:Int) < (bw.length:Int):=g6
  refine .mk [] [] _ R R R R R R (Qg ?_)
  rw [hBE,← hj,List.drop_of_length_le (by rw [List.length_range];omega)];rfl
theorem neN {a b:Nat} (h:((a:Int) != (b:Int))=true):a≠b:=fun e=>by subst e;simp at h
theorem eqN {a b:Nat} (h:((a:Int) != (b:Int))=false):a=b:=by simp at h;omega
theorem QhD {f:Nat→Int} {n k:Nat} (hk:k < n) (hi:Q6 f ((List.range n).drop k)=Q6 f (List.range n)) :
 (f k≠0→f k=Q6 f (List.range n))∧(f k=0→Q6 f ((List.range n).drop (k+1))=Q6 f (List.range n)):=by
 have hr:k < (List.range n).length:=by rw [List.length_range];exact hk
 have e1:=Qcb hk
 constructor
 ·intro h
  rw [← hi,QaA 0 hr (by rw [e1];exact h),e1]
 ·intro h
  rw [← hi,QaM 0 hr (by rw [e1];exact h)]
theorem Qiy {f:Nat→Int} {n k:Nat} (hk:¬ k < n) (hi:Q6 f ((List.range n).drop k)=Q6 f (List.range n)):Q6 f (List.range n)=0:=by
 rw [← hi,List.drop_of_length_le (by rw [List.length_range];omega)];rfl
def Qqw (bc:List Cv) (l:List Inp) (k:Nat):Int :=
 if 0 < k∧(l.getD k (dflt QL)).1 < (l.getD (k-1) (dflt QL)).1 then 9
 else if Qs (l.getD k (dflt QL)).2.1 QaE=true∨bc.any (nmB (l.getD k (dflt QL)).2.1)=true then 0 else 4
def QaU (b:Bd) (m:Mach) (l:List Inp):Int :=
 if Qah b≠0 then Qah b else if m.2.2.1.length≠b.2.2.1.length then 3
 else if m.1 < 0∨m.1 > 1099511627776 then 1 else if l.length > 500 then 2
 else Q6 (Qqw b.2.2.1 l) (List.range l.length)
def stP (b:Bd) (m:Mach) (l:List Inp):Prop:=QBy b∧l.length≤4611686018427387904
def QcX (b:Bd) (m:Mach) (l:List Inp) (n:Int):Int :=
 if QaU b m l≠0 then QaU b m l else if n < 0 then 1 else if n > 100000 then 2 else 0
def QjQ:Qk:=⟨[gBd,gM,gIn],fun (b,m,l,_)=>(some (stP b m l),I (QaU b m l),[])⟩
theorem Qfg {b:Bd} {m:Mach} {l:List Inp} (h:QaU b m l=0):Qah b=0∧m.2.2.1.length=b.2.2.1.length∧(0≤m.1∧m.1≤1099511627776)∧l.length≤500:=by
 unfold QaU at h
 split at h
 ·rename_i h1;exact absurd h h1
 ·rename_i h1
  split at h
  ·cases h
  ·rename_i h2
   split at h
   ·cases h
   ·rename_i h3
    split at h
    ·cases h
    ·rename_i h4
     refine ⟨?_,?_,?_,?_⟩<;>omega
def QcY (bc:List Cv):List ByteArray:=QaE :: bc.map fun c=>c.1
theorem Qiz (bc:List Cv) (s:ByteArray):(QcY bc).any (Qs s)=true ↔ Qs s QaE=true∨bc.any (nmB s)=true:=by
 unfold QcY
 rw [List.any_cons,Bool.or_eq_true,List.any_map]
 refine or_congr Iff.rfl ?_
 rw [List.any_eq_true,List.any_eq_true]
 refine ⟨fun ⟨c,h1,h2⟩=>⟨c,h1,QH.2 (QH.1 h2).symm⟩,fun ⟨c,h1,h2⟩=>⟨c,h1,QH.2 (QH.1 h2).symm⟩⟩
theorem QmS {bc:List Cv} {k:Nat} (h:k < bc.length):QcY (bc.take (k+1))=QcY (bc.take k)++[(bc.getD k (dflt Qh)).1]:=by
 unfold QcY
 rw [QaR (dflt Qh) h,List.map_append];rfl
theorem QBb {a:Bool} (h:(!a)=false):a=true:=by cases a<;>first |rfl |cases h
theorem Quk {bc:List Cv} {x:Inp} (h:(!bc.any (inB x))=false):bc.any (nmB x.2.1)=true:=QBb h
theorem Qul {bc:List Cv} {x:Inp} (h:(!Qs x.2.1 QaE)=true) (h2:(!bc.any (inB x))=true):¬ (Qs x.2.1 QaE=true∨bc.any (nmB x.2.1)=true):=fun hh=>by
 rcases hh with hh |hh
 ·rw [hh] at h;cases h
 ·have h3:bc.any (inB x)=true:=hh
  rw [h3] at h2;cases h2
set_option maxHeartbeats 4000000 in
theorem Qum:Qi Tryz.prog 13 QjQ.spec:=by
 have hP:Qe Tryz.prog _:=Qa Quh (Qa QDO (Qc (T:=tree)))
 have hT:=tabs hP Qf
 refine QjQ.good (fn:=Tryz.f13) hT hP Tryz.func13 (by kernel_rfl) rfl fun (b:Bd) (m:Mach) (l:List Inp) hq=>?_
 obtain ⟨hck,hln⟩:stP b m l:=hq _ rfl
 clear hq
 have hBE:QaU b m l=if Qah b≠0 then Qah b else if m.2.2.1.length≠b.2.2.1.length then 3
  else if m.1 < 0∨m.1 > 1099511627776 then 1 else if l.length > 500 then 2 else Q6 (Qqw b.2.2.1 l) (List.range l.length):=rfl
 have hcl:b.2.2.1.length*64≤140737488351232:=hck.1.1.1
 obtain ⟨bn,⟨un,ui,ur,uq,um⟩,bc,bw⟩:=b
 obtain ⟨tm,⟨r,op,at_,nmi⟩,ds,bd,ba,bdt⟩:=m
 have hcl:bc.length*64≤140737488351232:=hcl
 have hBE:QaU (bn,(un,ui,ur,uq,um),bc,bw) (tm,(r,op,at_,nmi),ds,bd,ba,bdt) l=if Qah (bn,(un,ui,ur,uq,um),bc,bw)≠0 then Qah (bn,(un,ui,ur,uq,um),bc,bw) else if ds.length≠bc.length then 3
  else if tm < 0∨tm > 1099511627776 then 1 else if l.length > 500 then 2 else Q6 (Qqw bc l) (List.range l.length):=hBE
 repeat' first |(refine Go.mk ?_;conv=>whnf) |refine Ql.go ?_ ?_ |refine Qm.go (fun _=>?_) (fun _=>?_) |refine Br.dec (fun _=>?_) (fun _=>?_) |refine Br.go (fun _=>?_) (fun _=>?_) |refine Qd hT hP mixed ?_ |refine Qb hT hP ?_
 all_goals (try dsimp only [Qj] at *)
 ·exact hck
 ·rename_i g
  have g:=Qcl (x:=Qah (bn,(un,ui,ur,uq,um),bc,bw)) g
  refine .mk [] [] _ R R R R R R (Qg ?_)
  rw [hBE,if_pos g]
 ·rename_i g0 g
  have g0:=Qav (x:=Qah (bn,(un,ui,ur,uq,um),bc,bw)) g0
  have g:=neN g
  refine .mk [] [] _ R R R R R R (Qg ?_)
  rw [hBE,if_neg (fun h=>h g0),if_pos g]
 ·rename_i g0 g1 g2
  have g0:=Qav (x:=Qah (bn,(un,ui,ur,uq,um),bc,bw)) g0
  have g1:=eqN g1
  have g2:tm < 0:=g2
  refine .mk [] [] _ R R R R R R (Qg ?_)
  rw [hBE,if_neg (fun h=>h g0),if_neg (fun h=>h g1),if_pos (.inl g2)]
 ·rename_i g0 g1 g2 g3
  have g0:=Qav (x:=Qah (bn,(un,ui,ur,uq,um),bc,bw)) g0
  have g1:=eqN g1
  have g3:tm > 1099511627776:=g3
  refine .mk [] [] _ R R R R R R (Qg ?_)
  rw [hBE,if_neg (fun h=>h g0),if_neg (fun h=>h g1),if_pos (.inr g3)]
 ·rename_i g0 g1 g2 g3 g4
  have g0:=Qav (x:=Qah (bn,(un,ui,ur,uq,um),bc,bw)) g0
  have g1:=eqN g1
  have g2:¬ tm < 0:=g2
  have g3:¬ tm > 1099511627776:=g3
  have g4:(l.length:Int) > 500:=g4
  refine .mk [] [] _ R R R R R R (Qg ?_)
  rw [hBE,if_neg (fun h=>h g0),if_neg (fun h=>h g1),if_neg (by omega),if_pos (by omega)]
 rename_i g0 g1 g2 g3 g4
 have g0:=Qav (x:=Qah (bn,(un,ui,ur,uq,um),bc,bw)) g0
 have g1:=eqN g1
 have g2:¬ tm < 0:=g2
 have g3:¬ tm > 1099511627776:=g3
 have g4:¬ (l.length:Int) > 500:=g4
 rw [if_neg (fun h=>h g0),if_neg (fun h=>h g1),if_neg (by omega),if_neg (by omega)] at hBE
 refine QO hT hP (A:=Unit) l.length (fun i _=>St.mk (E2 ((.cell (.ro QL l)) :: (.cell (.ptr 0 0)) :: E20 (E10 (E2 ((.cell (.ro QL l)) :: (I l.length) :: (I i) :: E20 (E10 []))))))
  [some (.var [.imm (.string bn),.imm (.string un),.ro Qaw ui,.ro QA ur,.ro QA uq,.ro QA um,.ro Qh bc,.ro Qx bw])])
  (fun k _=>Q6 (Qqw bc l) ((List.range l.length).drop k)=Q6 (Qqw bc l) (List.range l.length)) () (Le.mk [] [0] R R ?_ ?_) rfl fun k _ hk hi=>?_
 ·exact rfl
 ·repeat' first |exact trivial |exact ⟨rfl,rfl⟩ |refine And.intro ?_ ?_
 have hs:=fun h=>QhD (f:=Qqw bc l) (k:=k) h hi
 have hp:0 < k→(IntKind.i64.wrap ((k:Int)-1))=((k-1:Nat):Int):=fun h=>by rw [w64 (by omega) (by omega)];omega
 have hA:Qqw bc l k=if 0 < k∧(l.getD k (dflt QL)).1 < (l.getD (k-1) (dflt QL)).1 then 9
  else if Qs (l.getD k (dflt QL)).2.1 QaE=true∨bc.any (nmB (l.getD k (dflt QL)).2.1)=true then 0 else 4:=rfl
 clear g0 g1 g2 g3 hck
 repeat' first |(refine Go.mk ?_;conv=>whnf) |refine Ql.go ?_ ?_ |refine Qm.go (fun _=>?_) (fun _=>?_) |refine Br.dec (fun _=>?_) (fun _=>?_) |refine Br.go (fun _=>?_) (fun _=>?_) |refine Qd hT hP mixed ?_ |refine Qb hT hP ?_
 all_goals (try dsimp only [Qj] at *)
 all_goals clear hT hP
 ·rename_i g
  have g:(k:Int) < (l.length:Int):=by assumption
  show 0≤(k:Int)∧(k:Int) < (l.length:Int)
  omega
 ·rename_i g g2
  have g:(k:Int) < (l.length:Int):=by assumption
  have g2:(k:Int) > 0:=by assumption
  show 0≤IntKind.i64.wrap ((k:Int)-1)∧IntKind.i64.wrap ((k:Int)-1) < (l.length:Int)
  rw [hp (by omega)];omega
 ·rename_i g g2 g3
  have g:(k:Int) < (l.length:Int):=g
  have g2:(k:Int) > 0:=g2
  have g3:(l.getD k (dflt QL)).1 < (l.getD (IntKind.i64.wrap ((k:Int)-1)).toNat (dflt QL)).1:=g3
  rw [hp (by omega)] at g3
  have g3:(l.getD k (dflt QL)).1 < (l.getD (k-1) (dflt QL)).1:=g3
  rw [if_pos ⟨by omega,g3⟩] at hA
  refine .mk [] [] _ R R R R R R (Qg ?_)
  rw [hBE,← (hs (by omega)).1 (by rw [hA];decide),hA]
 ·exact ⟨by omega,trivial⟩
 ·rename_i g g2 g3 g4 g5
  have g:(k:Int) < (l.length:Int):=g
  have g3:¬ (l.getD k (dflt QL)).1 < (l.getD (IntKind.i64.wrap ((k:Int)-1)).toNat (dflt QL)).1:=g3
  rw [hp (by omega)] at g3
  have g3:¬ (l.getD k (dflt QL)).1 < (l.getD (k-1) (dflt QL)).1:=g3
  rw [if_neg (fun h=>g3 h.2)] at hA
  have g4:(!Qs (l.getD k (dflt QL)).2.1 QaE)=true:=g4
  have g5:(!bc.any (inB (l.getD k (dflt QL))))=true:=g5
  rw [if_neg (Qul g4 g5)] at hA
  refine .mk [] [] _ R R R R R R (Qg ?_)
  rw [hBE,← (hs (by omega)).1 (by rw [hA];decide),hA]
 ·rename_i g g2 g3 g4 g5
  have g:(k:Int) < (l.length:Int):=g
  have g3:¬ (l.getD k (dflt QL)).1 < (l.getD (IntKind.i64.wrap ((k:Int)-1)).toNat (dflt QL)).1:=g3
  rw [hp (by omega)] at g3
  have g3:¬ (l.getD k (dflt QL)).1 < (l.getD (k-1) (dflt QL)).1:=g3
  have g5:(!bc.any (inB (l.getD k (dflt QL))))=false:=g5
  rw [if_neg (fun h=>g3 h.2),if_pos (.inr (Quk g5))] at hA
  apply Exists.intro
  apply Exists.intro ()
  refine And.intro (And.intro ?lt122 (And.intro ?ei122 ?inv122)) (Le.mk [] [0] R R ?hh122 ?ht122)
  case hh122=>exact rfl
  case ht122=>repeat' first |exact trivial |exact ⟨rfl,rfl⟩ |refine And.intro ?_ ?_
  case lt122=>omega
  case ei122=>exact QW (by omega)
  exact (hs (by omega)).2 hA
 ·rename_i g g2 g3 g4
  have g:(k:Int) < (l.length:Int):=g
  have g3:¬ (l.getD k (dflt QL)).1 < (l.getD (IntKind.i64.wrap ((k:Int)-1)).toNat (dflt QL)).1:=g3
  rw [hp (by omega)] at g3
  have g3:¬ (l.getD k (dflt QL)).1 < (l.getD (k-1) (dflt QL)).1:=g3
  have g4:(!Qs (l.getD k (dflt QL)).2.1 QaE)=false:=g4
  rw [if_neg (fun h=>g3 h.2),if_pos (.inl (QBb g4))] at hA
  apply Exists.intro
  apply Exists.intro ()
  refine And.intro (And.intro ?lt137 (And.intro ?ei137 ?inv137)) (Le.mk [] [0] R R ?hh137 ?ht137)
  case hh137=>exact rfl
  case ht137=>repeat' first |exact trivial |exact ⟨rfl,rfl⟩ |refine And.intro ?_ ?_
  case lt137=>omega
  case ei137=>exact QW (by omega)
  exact (hs (by omega)).2 hA
 ·exact ⟨by omega,trivial⟩
 ·rename_i g g2 g4 g5
  have g:(k:Int) < (l.length:Int):=g
  have g2:¬ (k:Int) > 0:=g2
  rw [if_neg (fun h=>by have:=h.1;omega)] at hA
  have g4:(!Qs (l.getD k (dflt QL)).2.1 QaE)=true:=g4
  have g5:(!bc.any (inB (l.getD k (dflt QL))))=true:=g5
  rw [if_neg (Qul g4 g5)] at hA
  refine .mk [] [] _ R R R R R R (Qg ?_)
  rw [hBE,← (hs (by omega)).1 (by rw [hA];decide),hA]
 ·rename_i g g2 g4 g5
  have g:(k:Int) < (l.length:Int):=g
  have g2:¬ (k:Int) > 0:=g2
  have g5:(!bc.any (inB (l.getD k (dflt QL))))=false:=g5
  rw [if_neg (fun h=>by have:=h.1;omega),if_pos (.inr (Quk g5))] at hA
  apply Exists.intro
  apply Exists.intro ()
  refine And.intro (And.intro ?lt160 (And.intro ?ei160 ?inv160)) (Le.mk [] [0] R R ?hh160 ?ht160)
  case hh160=>exact rfl
  case ht160=>repeat' first |exact trivial |exact ⟨rfl,rfl⟩ |refine And.intro ?_ ?_
  case lt160=>omega
  case ei160=>exact QW (by omega)
  exact (hs (by omega)).2 hA
 ·rename_i g g2 g4
  have g:(k:Int) < (l.length:Int):=g
  have g2:¬ (k:Int) > 0:=g2
  have g4:(!Qs (l.getD k (dflt QL)).2.1 QaE)=false:=g4
  rw [if_neg (fun h=>by have:=h.1;omega),if_pos (.inl (QBb g4))] at hA
  apply Exists.intro
  apply Exists.intro ()
  refine And.intro (And.intro ?lt173 (And.intro ?ei173 ?inv173)) (Le.mk [] [0] R R ?hh173 ?ht173)
  case hh173=>exact rfl
  case ht173=>repeat' first |exact trivial |exact ⟨rfl,rfl⟩ |refine And.intro ?_ ?_
  case lt173=>omega
  case ei173=>exact QW (by omega)
  exact (hs (by omega)).2 hA
 ·rename_i g
  have g:¬ (k:Int) < (l.length:Int):=g
  refine .mk [] [] _ R R R R R R (Qg ?_)
  rw [hBE,Qiy (by omega) hi]
def QDQ (h:List Int) (ds:List Dv):Mach:=(h.getD 0 0,((h.drop 1).take 9,h.getD 10 0,h.getD 11 0,decide (h.getD 12 0=1)),ds,h.getD 13 0,h.getD 14 0,h.getD 15 0)
def fin (h:List Int):Option (List Dv × List Int)→Option Mach
 |none=>none
 |some (ds,r)=>if r.length > 0 then none else if h.getD 12 0=0∨h.getD 12 0=1 then some (QDQ h ds) else none
def QDR (m:Mach):List QD:=[iv .i64 m.1,.run .i64 9 m.2.1.1,iv .i64 m.2.1.2.1,iv .i64 m.2.1.2.2.1,bv m.2.1.2.2.2,.ro Qp m.2.2.1,iv .i64 m.2.2.2.1,iv .i64 m.2.2.2.2.1,iv .i64 m.2.2.2.2.2]
def Qh0:Mach:=(0,([0,0,0,0,0,0,0,0,0],0,0,false),[],0,0,0)
def comes (T:Option Mach) (F:List Int→Option Mach) (b:List Int) (bad:Bool):Prop:=(bad=false→T=F b)∧(bad=true→T=none)
end Go.Proofs.YtofgbclopbmlcaaGreat

