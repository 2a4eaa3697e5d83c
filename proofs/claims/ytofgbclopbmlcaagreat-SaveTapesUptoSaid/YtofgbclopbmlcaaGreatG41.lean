/- Part 41 of the proof. Conditions: none. -/
import Derived.Test.YtofgbclopbmlcaaGreatG40
import Derived.Test.YtofgbclopbmlcaaGreatG38
import Derived.Test.YtofgbclopbmlcaaGreatG39
import Derived.Test.YtofgbclopbmlcaaGreatG25
import Derived.Test.YtofgbclopbmlcaaGreatG34
import Derived.Test.YtofgbclopbmlcaaGreatG28
namespace Go.Proofs.YtofgbclopbmlcaaGreat
open Go.IntKind (i64)
set_option maxHeartbeats 8000000
open Go.Fw
set_option linter.unusedVariables false
set_option linter.unusedSimpArgs false
set_option linter.constructorNameAsVariable false
set_option maxRecDepth 100000
theorem QBZ{α:Type}{f:α→Nat}{B:Nat}:∀{l:List α},(∀x∈l,f x≤B)→(l.map f).sum≤l.length*B
 | [],_=>YR _
 |x::r,h=>by
  have h1:=h x (YZ ..);have h2:=QBZ (l:=r) fun y hy=>h y (YP _ hy)
  rw[Jb,List.sum_cons,Yx,YV];omega
theorem Qho{b:Bd}(h:Qas b=0):b.2.2.1.length≤12∧Qbh b.2.2.1=0:=by
 unfold Qas at h;split at h
 ·cases h
 ·split at h
  ·rename_i h1;exact YD h h1
  ·split at h
   ·cases h
   ·rename_i h2;split at h
    ·rename_i h3;exact YD h h3
    ·rename_i h3;exact⟨by omega,by omega⟩
structure MchP(b:Bd)(m:Mach)(l:List Inp):Prop where
 s:stP b m l
 l:QEk b m
 c:∀c∈b.2.2.1,u8s c.2.2.2.2
theorem QiG(c:Cpu)(k:Kor)(i:Bool):0≤(Qk c k i).2.2.1∧(Qk c k i).2.2.1<66000:=by
 have hs:=Qew c (QH k.1,k.2) i
 have h1:(if k.2.1=-1 then Qbm c (QH k.1,k.2) i else (QH k.1,k.2)).1=QH k.1:=by
  split
  ·exact hs
  ·rfl
 unfold Qk;dsimp only;generalize(if k.2.1=-1 then Qbm c (QH k.1,k.2) i else (QH k.1,k.2))=k1 at *;have Q:r16 k1.1:=by rw[h1];exact Qiy _
 repeat' split
 all_goals first
  |exact QvN 0 Q
  |exact QvN (doF c k1.2.1 k1.2.2.1).2.1 Q
  |(show(0:Int)≤0∧(0:Int)<66000;decide)
theorem QgF{f:Cv→Dv→Dv}{cs:List Cv}{ds:List Dv}{k:Nat}(h:cs.length=ds.length)(hk:k<cs.length):(List.zipWith f cs ds).getD k (dflt Qh)=f (cs.getD k (dflt Qe)) (ds.getD k (dflt Qh)):=by
 rw[Yd,List.getElem?_zipWith,Yd,Ye hk,Yd,Ye (show k<ds.length by omega)];rfl
theorem Qqw{f:Cv→Dv→Int}{cs:List Cv}{ds:List Dv}(h:cs.length=ds.length):(List.zipWith f cs ds).length=cs.length:=by
 rw[Ja];omega
theorem QfY{c:Cpu}{r:List Int}{o a:Int}{n:Bool}(h:Qbc c (r,o,a,n))(n':Bool):Qbc c (r,o,a,n'):=h
def QL9(x:StX):Prop:=((x.l.length≤4611686018427387904∧bdP x.b.v)∧Qbc x.b.v.2.1 x.m.v.2.1)∧∃L,MOk L x.b.v x.m.v
def QHC:WSpec:=⟨StX,fun x=>[.agg (bdA x.b),.c (.ptr 0 0),.c (.ro Qv x.l)],fun x=>[.var (mcA x.m),.arr Qh x.m.ds],QIK,
 fun⟨⟨C,w,z,q,u,y,e,B⟩,⟨tm,r,op,at_,j,ds,bd,G,D⟩,l⟩ =>
  (some (QL9 ⟨⟨C,w,z,q,u,y,e,B⟩,⟨tm,r,op,at_,j,ds,bd,G,D⟩,l⟩),.cell (.own 2),
    [some (.var [iv .i64 (Qs (C,(w,z,q,u,y),e,B) (tm,(r,op,at_,j),ds,bd,G,D) l).1.1,.run .i64 9 (Qs (C,(w,z,q,u,y),e,B) (tm,(r,op,at_,j),ds,bd,G,D) l).1.2.1.1,iv .i64 (Qs (C,(w,z,q,u,y),e,B) (tm,(r,op,at_,j),ds,bd,G,D) l).1.2.1.2.1,iv .i64 (Qs (C,(w,z,q,u,y),e,B) (tm,(r,op,at_,j),ds,bd,G,D) l).1.2.1.2.2.1,bv (Qs (C,(w,z,q,u,y),e,B) (tm,(r,op,at_,j),ds,bd,G,D) l).1.2.1.2.2.2,.own 1,iv .i64 (Qs (C,(w,z,q,u,y),e,B) (tm,(r,op,at_,j),ds,bd,G,D) l).1.2.2.2.1,iv .i64 (Qs (C,(w,z,q,u,y),e,B) (tm,(r,op,at_,j),ds,bd,G,D) l).1.2.2.2.2.1,iv .i64 (Qs (C,(w,z,q,u,y),e,B) (tm,(r,op,at_,j),ds,bd,G,D) l).1.2.2.2.2.2]),
    some (.arr Qh (Qs (C,(w,z,q,u,y),e,B) (tm,(r,op,at_,j),ds,bd,G,D) l).1.2.2.1)],[.arr Qv (Qs (C,(w,z,q,u,y),e,B) (tm,(r,op,at_,j),ds,bd,G,D) l).2])⟩
theorem Qau{d:List Dv}{k:Nat}{x:Dv}(h:k<d.length):(d.set k x).getD k (dflt Qh)=x:=by
 rw[Yd,List.getElem?_set_self h];rfl
theorem QEl{t:Int}{T:Kor}{a b i:Int}{d:List Dv}{o:List Inp}{p:Mach×List Inp}(h:p=((t,T,d,a,b,i),o)):[some (Blk.var [iv .i64 t,.run .i64 9 T.1,iv .i64 T.2.1,iv .i64 T.2.2.1,bv T.2.2.2,.own 1,iv .i64 a,iv .i64 b,iv .i64 i]),some (.arr Qh d),some (.arr Qv o)] =
 [some (Blk.var [iv .i64 p.1.1,.run .i64 9 p.1.2.1.1,iv .i64 p.1.2.1.2.1,iv .i64 p.1.2.1.2.2.1,bv p.1.2.1.2.2.2,.own 1,iv .i64 p.1.2.2.2.1,iv .i64 p.1.2.2.2.2.1,iv .i64 p.1.2.2.2.2.2]),some (.arr Qh p.1.2.2.1),some (.arr Qv p.2)]:=by
 subst h;rfl
theorem Qqx:G0 70 QHC.spec:=by
 have Z:S0 _:=Qa QzS (Qa QEh (Qa Qqv (Qa QBy (Qa QEi (Qa Qvy (Qa Qyt (Qa QuQ (Qb (T:=tree)))))))));have hT:=tabs Z Qc;refine QHC.gd hT Z Tryz.func70 (fun _ _ _ h=>QvL h) fun(x:StX) hq=>?_
 obtain⟨⟨C,w,z,q,u,y,e,B⟩,⟨tm,r,op,at_,j,ds,bd,G,D⟩,l⟩:=x;obtain⟨⟨⟨hl,O⟩,N⟩,L,V⟩:QL9 ⟨⟨C,w,z,q,u,y,e,B⟩,⟨tm,r,op,at_,j,ds,bd,G,D⟩,l⟩:=hq _ rfl;clear hq;have hl:l.length≤4611686018427387904:=hl;have O:bdP (C,(w,z,q,u,y),e,B):=O;have N:Qbc (w,z,q,u,y) (r,op,at_,j):=N;have hbl:e.length*64≤140737488351232:=O.1.1;have Q:e.length=ds.length:=V.l;have h3:QrZ L e:=V.c;have h4:Qhl L ds:=V.d;have hL:=V.L2;have hL1:=V.L1;have U:∀c∈e,cP c:=fun c h=>(h3 c h).1
 have hg:=Qez (t:=tm) h3 l (s:=(ds,j)) h4 Q;have Y:∀d∈(QM e tm l (ds,j)).1,dP d:=fun d h=>(hg.1 d h).dP hL
 have X:(QM e tm l (ds,j)).1.length=ds.length:=hg.2
 repeat' first|(apply Ea;conv=>whnf)|apply Eb|apply Ec|apply Ed|apply Ee|(apply Ei;intro _)|apply Ef hT Z
 all_goals(try dsimp only[Qf] at *)
 ·exact⟨Q,hbl,U,fun d h=>(h4 d h).dP hL⟩
 ·exact⟨⟨hl,by show e.length≤_;omega⟩,L,V⟩
 ·exact⟨O,Y⟩
 ·exact QnX (QfY N (QM e tm l (ds,j)).2)
 ·refine⟨⟨by show e.length≤_;omega,?_,fun c h=>⟨(U c h).1,(U c h).2.1⟩⟩,by show e.length=List.length _;rw[X];exact Q,U,Y⟩;have:=QiG (w,z,q,u,y) (r,op,at_,(QM e tm l (ds,j)).2) (QC (C,(w,z,q,u,y),e,B) (QM e tm l (ds,j)).1);exact⟨by show _≤(Qk _ _ _).2.2.1;omega,by show(Qk _ _ _).2.2.1≤_;omega⟩
 ·exact Qix (QfY N _) _
 have S:=QdI (b:=(C,(w,z,q,u,y),e,B)) (ds:=(QM e tm l (ds,j)).1) (x:=(Qk (w,z,q,u,y) (r,op,at_,(QM e tm l (ds,j)).2) (QC (C,(w,z,q,u,y),e,B) (QM e tm l (ds,j)).1)).2) hL1 h3 hg.1;have hcy:Qs (C,(w,z,q,u,y),e,B) (tm,(r,op,at_,j),ds,bd,G,D) l=((Qcg tm,(QL (w,z,q,u,y) (Qk (w,z,q,u,y) (r,op,at_,(QM e tm l (ds,j)).2) (QC (C,(w,z,q,u,y),e,B) (QM e tm l (ds,j)).1)).1 (Qb4 (C,(w,z,q,u,y),e,B) (QM e tm l (ds,j)).1 (Qk (w,z,q,u,y) (r,op,at_,(QM e tm l (ds,j)).2) (QC (C,(w,z,q,u,y),e,B) (QM e tm l (ds,j)).1)).2)),List.zipWith Qg e (QaX (C,(w,z,q,u,y),e,B) (QM e tm l (ds,j)).1 (Qk (w,z,q,u,y) (r,op,at_,(QM e tm l (ds,j)).2) (QC (C,(w,z,q,u,y),e,B) (QM e tm l (ds,j)).1)).2),(Qk (w,z,q,u,y) (r,op,at_,(QM e tm l (ds,j)).2) (QC (C,(w,z,q,u,y),e,B) (QM e tm l (ds,j)).1)).2.1,(Qk (w,z,q,u,y) (r,op,at_,(QM e tm l (ds,j)).2) (QC (C,(w,z,q,u,y),e,B) (QM e tm l (ds,j)).1)).2.2.1,(Qb4 (C,(w,z,q,u,y),e,B) (QM e tm l (ds,j)).1 (Qk (w,z,q,u,y) (r,op,at_,(QM e tm l (ds,j)).2) (QC (C,(w,z,q,u,y),e,B) (QM e tm l (ds,j)).1)).2)),Qfh tm e (List.zipWith Qg e (QaX (C,(w,z,q,u,y),e,B) (QM e tm l (ds,j)).1 (Qk (w,z,q,u,y) (r,op,at_,(QM e tm l (ds,j)).2) (QC (C,(w,z,q,u,y),e,B) (QM e tm l (ds,j)).1)).2)) (List.zipWith Qat e ds)):=rfl;have K:(QaX (C,(w,z,q,u,y),e,B) (QM e tm l (ds,j)).1 (Qk (w,z,q,u,y) (r,op,at_,(QM e tm l (ds,j)).2) (QC (C,(w,z,q,u,y),e,B) (QM e tm l (ds,j)).1)).2).length=e.length:=by rw[S.2,X];exact Q.symm
 have hDd:∀d∈(QaX (C,(w,z,q,u,y),e,B) (QM e tm l (ds,j)).1 (Qk (w,z,q,u,y) (r,op,at_,(QM e tm l (ds,j)).2) (QC (C,(w,z,q,u,y),e,B) (QM e tm l (ds,j)).1)).2),dP d:=fun d h=>(S.1 d h).dP hL
 have hTd:∀d∈List.zipWith Qg e (QaX (C,(w,z,q,u,y),e,B) (QM e tm l (ds,j)).1 (Qk (w,z,q,u,y) (r,op,at_,(QM e tm l (ds,j)).2) (QC (C,(w,z,q,u,y),e,B) (QM e tm l (ds,j)).1)).2),dP d:=fun d h=>(QbS h3 S.1 d h).dP hL
 generalize hT0:(QL (w,z,q,u,y) (Qk (w,z,q,u,y) (r,op,at_,(QM e tm l (ds,j)).2) (QC (C,(w,z,q,u,y),e,B) (QM e tm l (ds,j)).1)).1 (Qb4 (C,(w,z,q,u,y),e,B) (QM e tm l (ds,j)).1 (Qk (w,z,q,u,y) (r,op,at_,(QM e tm l (ds,j)).2) (QC (C,(w,z,q,u,y),e,B) (QM e tm l (ds,j)).1)).2))=T0 at *;generalize hI0:(Qb4 (C,(w,z,q,u,y),e,B) (QM e tm l (ds,j)).1 (Qk (w,z,q,u,y) (r,op,at_,(QM e tm l (ds,j)).2) (QC (C,(w,z,q,u,y),e,B) (QM e tm l (ds,j)).1)).2)=I0 at *;generalize hA0:(QaX (C,(w,z,q,u,y),e,B) (QM e tm l (ds,j)).1 (Qk (w,z,q,u,y) (r,op,at_,(QM e tm l (ds,j)).2) (QC (C,(w,z,q,u,y),e,B) (QM e tm l (ds,j)).1)).2)=D0 at *;generalize(Qk (w,z,q,u,y) (r,op,at_,(QM e tm l (ds,j)).2) (QC (C,(w,z,q,u,y),e,B) (QM e tm l (ds,j)).1))=A0 at *;generalize hN0:List.zipWith Qat e ds=N0 at *;have hNl:N0.length=e.length:=by rw[←hN0];exact Qqw Q
 refine QA hT Z (A:=List Dv×List Inp) e.length (fun i s=>St.mk (E1 ((.cell (.ptr 0 0))::E5 ((.cell (.own 2))::(.cell (.own 3))::E40 (E10 (E2 ((.cell (.ro Qe e))::(I e.length)::(I i)::E40 (E10 (E5 (E2 [])))))))))
  [some (.var [iv .i64 tm,.run .i64 9 T0.1,iv .i64 T0.2.1,iv .i64 T0.2.2.1,bv T0.2.2.2,.own 1,iv .i64 A0.2.1,iv .i64 A0.2.2.1,iv .i64 I0]),some (.arr Qh s.1),some (.arr (.int .i64) N0),some (.arr Qv s.2)])
  (fun k s=>s.1=QdP Qg e D0 k∧s.2=newK tm e (List.zipWith Qg e D0) N0 k) (D0,[]) (.trans (Le.nil 8 Qv rfl) (Le.k [] [0,1,3,4] ?_)) ⟨(QfW _ _ _).symm,rfl⟩ fun k s hk hi=>?_
 ·repeat' constructor
 obtain⟨d,o⟩:=s;obtain⟨H,M⟩:=hi;have H:d=QdP Qg e D0 k:=H;have M:o=newK tm e (List.zipWith Qg e D0) N0 k:=M;have hdl:d.length=e.length:=by rw[H,QbW K.symm hk];exact K
 have J:k<e.length→d.getD k (dflt Qh)=D0.getD k (dflt Qh):=fun h=>by rw[H];exact QbX K.symm h _
 have F:k<e.length→d.set k (Qg (e.getD k (dflt Qe)) (D0.getD k (dflt Qh)))=QdP Qg e D0 (k+1):=fun h=>by rw[H];exact Qbp K.symm h _ _
 have hzl:e.length=(List.zipWith Qg e D0).length:=by rw[Ja];omega
 have W:k<e.length→(List.zipWith Qg e D0).getD k (dflt Qh)=Qg (e.getD k (dflt Qe)) (D0.getD k (dflt Qh)):=fun h=>QgF K.symm h
 have E:k<e.length→newK tm e (List.zipWith Qg e D0) N0 (k+1)=o++(if Qat (e.getD k (dflt Qe)) (Qg (e.getD k (dflt Qe)) (D0.getD k (dflt Qh)))=N0.getD k 0 then [] else [(tm,(e.getD k (dflt Qe)).1,Qat (e.getD k (dflt Qe)) (Qg (e.getD k (dflt Qe)) (D0.getD k (dflt Qh))))]):=fun h=>by
  rw[Qdm hzl hNl.symm h (dflt Qe) (dflt Qh),W h,M]
 have hol:o.length≤e.length:=by
  rw[M];refine YG (QbG _ _ _ _) ?_;rw[Yq];omega
 repeat' first|(apply Ea;conv=>whnf)|apply Eb|apply Ec|apply Ed|apply Ee|(apply Ei;intro _)|apply Ef hT Z
 all_goals(try dsimp only[Qf] at *)
 ·have g:(k:Int)<(e.length:Int):=by assumption
  show 0≤(k:Int)∧(k:Int)<(e.length:Int);omega
 ·have g:(k:Int)<(e.length:Int):=by assumption
  show 0≤(k:Int)∧(k:Int)<(d.length:Int);omega
 ·have g:(k:Int)<(e.length:Int):=by assumption
  show k<d.length;omega
 ·have g:(k:Int)<(e.length:Int):=by assumption
  refine⟨U _ (QK (dflt Qe) (show k<e.length by omega)),?_⟩;show dP (d.getD k (dflt Qh));rw[J (by omega)];exact hDd _ (QK (dflt Qh) (show k<D0.length by omega))
 ·have g:(k:Int)<(e.length:Int):=by assumption
  show 0≤(k:Int)∧(k:Int)<(d.length:Int);omega
 ·have g:(k:Int)<(e.length:Int):=by assumption
  show k<d.length;omega
 ·have g:(k:Int)<(e.length:Int):=by assumption
  show 0≤(k:Int)∧(k:Int)<(List.length (d.set _ _):Int);rw[YH];omega
 ·have g:(k:Int)<(e.length:Int):=by assumption
  show k<List.length (d.set _ _);rw[YH];omega
 ·have g:(k:Int)<(e.length:Int):=by assumption
  refine⟨U _ (QK (dflt Qe) (show k<e.length by omega)),?_⟩;show dP ((d.set k (Qg (e.getD k (dflt Qe)) (d.getD k (dflt Qh)))).getD k (dflt Qh));rw[Qau (show k<d.length by omega),J (by omega),←W (by omega)];exact hTd _ (QK (dflt Qh) (show k<(List.zipWith Qg e D0).length by omega))
 ·have g:(k:Int)<(e.length:Int):=by assumption
  show 0≤(k:Int)∧(k:Int)<(N0.length:Int);omega
 ·have g:(k:Int)<(e.length:Int):=by assumption
  show k<N0.length;omega
 ·have g:(k:Int)<(e.length:Int):=by assumption
  show(o.length+1)*32≤140737488355328;omega
 ·rename_i g P;have g:(k:Int)<(e.length:Int):=g;have e1:(d.set k (Qg (e.getD k (dflt Qe)) (d.getD k (dflt Qh)))).getD k (dflt Qh)=Qg (e.getD k (dflt Qe)) (D0.getD k (dflt Qh)):=by rw[Qau (show k<d.length by omega),J (by omega)]
  have P:(Qat (e.getD k (dflt Qe)) ((d.set k (Qg (e.getD k (dflt Qe)) (d.getD k (dflt Qh)))).getD k (dflt Qh)) != N0.getD k 0)=true:=P;rw[e1] at P;have g3:¬Qat (e.getD k (dflt Qe)) (Qg (e.getD k (dflt Qe)) (D0.getD k (dflt Qh)))=N0.getD k 0:=by simpa using P
  have E:=E (by omega);rw[Yb g3] at E;have F:=F (by omega);rw[←J (by omega)] at F;apply Ex (_,_) [] [0,1,2,8]
  ·repeat' constructor
  ·omega
  ·exact QJ (by omega)
  refine⟨F,?_⟩;rw[E,←e1]
  try rfl
 ·rename_i g P;have g:(k:Int)<(e.length:Int):=g;have e1:(d.set k (Qg (e.getD k (dflt Qe)) (d.getD k (dflt Qh)))).getD k (dflt Qh)=Qg (e.getD k (dflt Qe)) (D0.getD k (dflt Qh)):=by rw[Qau (show k<d.length by omega),J (by omega)]
  have P:(Qat (e.getD k (dflt Qe)) ((d.set k (Qg (e.getD k (dflt Qe)) (d.getD k (dflt Qh)))).getD k (dflt Qh)) != N0.getD k 0)=false:=P;rw[e1] at P;have g3:Qat (e.getD k (dflt Qe)) (Qg (e.getD k (dflt Qe)) (D0.getD k (dflt Qh)))=N0.getD k 0:=by simpa using P
  have E:=E (by omega);rw[Yf g3,Jd] at E;have F:=F (by omega);rw[←J (by omega)] at F;apply Ex (_,o) [] [0,1,2,3]
  ·repeat' constructor
  ·omega
  ·exact QJ (by omega)
  exact⟨F,E.symm⟩
 ·rename_i g;have g:¬(k:Int)<(e.length:Int):=g;have e1:d=List.zipWith Qg e D0:=by rw[H,QbF K.symm (by omega)]
  have e2:o=Qfh tm e (List.zipWith Qg e D0) N0:=by
   rw[M];unfold newK;rw[Yh (by omega),Yh (by omega),Yh (by omega)]
  have e3:i64.wrap (imax (-1) (imin tm 1099511627775)+1)=Qcg tm:=by
   rw[Q8,QS,w64 (by omega) (by omega)];rfl
  exact .mk [] [0,1,3] _ R R R R R (QEl (p:=Qs (C,(w,z,q,u,y),e,B) (tm,(r,op,at_,j),ds,bd,G,D) l) (by rw[hcy,e1,e2,e3])) rfl
theorem Qa6(b:Bd)(l:List Inp):∀(k:Nat) (s:Mach×List Inp),Qbz b l (k+1) s=((Qs b (Qbz b l k s).1 l).1,(Qbz b l k s).2++(Qs b (Qbz b l k s).1 l).2)
 |0,s=>rfl
 |k+1,s=>by
  show Qbz b l (k+1) ((Qs b s.1 l).1,s.2++(Qs b s.1 l).2)=_;rw[Qa6 b l k];rfl
def QqF(b:Bd)(m:Mach)(l:List Inp):Mach×List Inp:=if m.2.2.1.length=b.2.2.1.length then Qs b m l else (m,[])
def QgG(m:Mach)(i:Nat):V1:=.agg [iv .i64 m.1,.run .i64 9 m.2.1.1,iv .i64 m.2.1.2.1,iv .i64 m.2.1.2.2.1,bv m.2.1.2.2.2,.own i,iv .i64 m.2.2.2.1,iv .i64 m.2.2.2.2.1,iv .i64 m.2.2.2.2.2]
def QMf(b:Bd)(m:Mach)(l:List Inp):Prop:=(Qw9 m.2.2.1∧l.length≤4611686018427387904∧bdP b)∧Qbc b.2.1 m.2.1∧(b.2.2.1.length=m.2.2.1.length→∃L,MOk L b m)
def QHW:PSpec:=⟨[gBd,gM,gIn],fun(b,m,l,_)=>(some (QMf b m l),.tup [QgG (QqF b m l).1 0,.c (.own 1)],[.arr Qh (QqF b m l).1.2.2.1,.arr Qv (QqF b m l).2])⟩
theorem Qwu:G0 22 QHW.spec:=by
 have F:S0 _:=Qa QkT (Qa Qqx (Qb (T:=tree)));have H:=tabs F Qc;refine QHW.gd H F Tryz.func22 fun(b:Bd) (m:Mach) (l:List Inp) M=>?_
 obtain⟨⟨Q,J,P⟩,W,h5⟩:QMf b m l:=M _ rfl;clear M;have hE1:¬m.2.2.1.length=b.2.2.1.length→QqF b m l=(m,[]):=fun h=>Yb h
 have hE2:m.2.2.1.length=b.2.2.1.length→QqF b m l=Qs b m l:=fun h=>Yf h
 obtain⟨C,⟨u,y,j,t,w⟩,f,B⟩:=b;obtain⟨tm,⟨r,op,at_,a⟩,ds,bd,D,d⟩:=m
 repeat' first|(apply Ea;conv=>whnf)|apply Eb|apply Ec|apply Ed|apply Ee|(apply Ei;intro _)|apply Ef H F
 all_goals(try dsimp only[Qf] at *)
 all_goals clear H F
 ·exact Q
 ·rename_i g;have g:=neN g;have e:=hE1 g;have e:QqF (C,(u,y,j,t,w),f,B) (tm,(r,op,at_,a),ds,bd,D,d) l=((tm,(r,op,at_,a),ds,bd,D,d),[]):=e;exact .le (Le.nil 7 Qv rfl) (.mk [] [3,4] _ R R R R R (Yv (fun z:Mach×List Inp=>[some (Blk.arr Qh z.1.2.2.1),some (Blk.arr Qv z.2)]) e.symm) (Yv (fun z:Mach×List Inp=>AV.tup [QgG z.1 0,.c (.own 1)]) e.symm))
 ·rename_i g;have g:=eqN g;exact⟨⟨⟨J,P⟩,W⟩,h5 g.symm⟩
 ·rename_i g;have g:=eqN g;have e:QqF (C,(u,y,j,t,w),f,B) (tm,(r,op,at_,a),ds,bd,D,d) l=Qs (C,(u,y,j,t,w),f,B) (tm,(r,op,at_,a),ds,bd,D,d) l:=hE2 g;exact .mk [] [3,4] _ R R R R R (Yv (fun z:Mach×List Inp=>[some (Blk.arr Qh z.1.2.2.1),some (Blk.arr Qv z.2)]) e.symm) (Yv (fun z:Mach×List Inp=>AV.tup [QgG z.1 0,.c (.own 1)]) e.symm)
def nxS(b:Bd)(l:List Inp)(m:Mach)(o:List Inp):Mach×List Inp:=((Qs b m l).1,o++(Qs b m l).2)
theorem Qei{p q:Mach×List Inp}{e e':Int}(h:p=q)(J:e=e'):AV.tup [QgG p.1 0,.c (.own 1),I1 e]=AV.tup [QgG q.1 0,.c (.own 1),I1 e']:=by rw[h,J]
def Qdr(b:Bd)(m:Mach)(l:List Inp)(n:Int):Mach×List Inp:=if QbH b m l n=0 then Qbz b l n.toNat (m,[]) else (Qk7,[])
def Qz9(b:Bd)(m:Mach)(l:List Inp):Prop:=(Qw9 m.2.2.1∧l.length≤4611686018427387904∧QFg b)∧(QbH b m l 0=0→Qbc b.2.1 m.2.1)∧(QbH b m l 0=0→∃L,MOk L b m)
def QHX:PSpec:=⟨[gBd,gM,gIn,gi],fun(b,m,l,n,_)=>(some (Qz9 b m l),.tup [QgG (Qdr b m l n).1 0,.c (.own 1),I1 (QbH b m l n)],[.arr Qh (Qdr b m l n).1.2.2.1,.arr Qv (Qdr b m l n).2])⟩
theorem Qej{L:Nat}{b:Bd}{l:List Inp}{m:Mach}(h:MOk L b m)(U:Qbc b.2.1 m.2.1):∀k,MOk L b (Qbz b l k (m,[])).1∧Qbc b.2.1 (Qbz b l k (m,[])).1.2.1∧(Qbz b l k (m,[])).2.length≤k*b.2.2.1.length
 |0=>⟨h,U,YR _⟩
 |k+1=>by
  obtain⟨Q,J,P⟩:=Qej h U k;rw[Qa6];refine⟨QzE l Q,⟨J.1,J.2.1,Qiw _ _ _⟩,?_⟩;have W:(Qs b (Qbz b l k (m,[])).1 l).2.length≤b.2.2.1.length:=QbG _ _ _ _;rw[Ym,YV];omega
theorem Qwv:G0 28 QHX.spec:=by
 have F:S0 _:=Qa Qwo (Qa QkT (Qa Qqx (Qb (T:=tree))));have H:=tabs F Qc;refine QHX.gd H F Tryz.func28 fun(b:Bd) (m:Mach) (l:List Inp) (n:Int) M=>?_
 obtain⟨⟨Q,J,P⟩,W,h5⟩:Qz9 b m l:=M _ rfl;clear M;have V:QbH b m l n=if QN b m l≠0 then QN b m l else if n<0 then 1 else if n>100000 then 2 else 0:=rfl
 have K:QbH b m l n≠0→Qdr b m l n=(Qk7,[]):=fun h=>Yb h
 have hM2:QbH b m l n=0→Qdr b m l n=Qbz b l n.toNat (m,[]):=fun h=>Yf h
 have O:QN b m l=0→QbH b m l 0=0:=fun h=>by
  show(if QN b m l≠0 then QN b m l else if (0:Int)<0 then 1 else if (0:Int)>100000 then 2 else 0)=0;rw[Yb (fun hh=>hh h)];rfl
 have hS:=fun h=>QaT (b:=b) (m:=m) (l:=l) h
 have h6:=P.1;obtain⟨C,⟨u,y,j,t,w⟩,f,B⟩:=b;obtain⟨tm,⟨r,op,at_,a⟩,ds,bd,D,d⟩:=m
 repeat' first|(apply Ea;conv=>whnf)|apply Eb|apply Ec|apply Ed|apply Ee|(apply Ei;intro _)|apply Ef H F
 all_goals(try dsimp only[Qf] at *)
 ·exact⟨P,J⟩
 ·rename_i g;have g:=Qc2 (x:=QN (C,(u,y,j,t,w),f,B) (tm,(r,op,at_,a),ds,bd,D,d) l) g;have e:QbH (C,(u,y,j,t,w),f,B) (tm,(r,op,at_,a),ds,bd,D,d) l n=QN (C,(u,y,j,t,w),f,B) (tm,(r,op,at_,a),ds,bd,D,d) l:=by rw[V];exact Yf g
  have e2:=K (by rw[e];exact g);exact .le (.trans (Le.nilH 2 Qh _ _ R R R) (Le.nil 9 Qv rfl)) (.mk [] [3,4] _ R R R R R (Yv (fun z:Mach×List Inp=>[some (Blk.arr Qh z.1.2.2.1),some (Blk.arr Qv z.2)]) e2.symm) (Qei (p:=(Qk7,[])) e2.symm e.symm))
 ·rename_i E g;have E:=QaS (x:=QN (C,(u,y,j,t,w),f,B) (tm,(r,op,at_,a),ds,bd,D,d) l) E;have g:n<0:=g;have e:QbH (C,(u,y,j,t,w),f,B) (tm,(r,op,at_,a),ds,bd,D,d) l n=1:=by rw[V];exact(Yb (fun h=>h E)).trans (Yf g)
  have e2:=K (by rw[e];decide);exact .le (.trans (Le.nilH 2 Qh _ _ R R R) (Le.nil 9 Qv rfl)) (.mk [] [3,4] _ R R R R R (Yv (fun z:Mach×List Inp=>[some (Blk.arr Qh z.1.2.2.1),some (Blk.arr Qv z.2)]) e2.symm) (Qei (p:=(Qk7,[])) e2.symm e.symm))
 ·rename_i E S g;have E:=QaS (x:=QN (C,(u,y,j,t,w),f,B) (tm,(r,op,at_,a),ds,bd,D,d) l) E;have g:n>100000:=g;have e:QbH (C,(u,y,j,t,w),f,B) (tm,(r,op,at_,a),ds,bd,D,d) l n=2:=by rw[V];exact(Yb (fun h=>h E)).trans ((Yb S).trans (Yf g))
  have e2:=K (by rw[e];decide);exact .le (.trans (Le.nilH 2 Qh _ _ R R R) (Le.nil 9 Qv rfl)) (.mk [] [3,4] _ R R R R R (Yv (fun z:Mach×List Inp=>[some (Blk.arr Qh z.1.2.2.1),some (Blk.arr Qv z.2)]) e2.symm) (Qei (p:=(Qk7,[])) e2.symm e.symm))
 ·exact Q
 rename_i E S g2;have E:=QaS (x:=QN (C,(u,y,j,t,w),f,B) (tm,(r,op,at_,a),ds,bd,D,d) l) E;have S:¬n<0:=S;have g2:¬n>100000:=g2;obtain⟨N,rfl⟩:=Yz (show 0≤n by omega);have e:QbH (C,(u,y,j,t,w),f,B) (tm,(r,op,at_,a),ds,bd,D,d) l (N:Int)=0:=by rw[V];exact(Yb (fun h=>h E)).trans ((Yb S).trans (Yb g2))
 have e2:Qdr (C,(u,y,j,t,w),f,B) (tm,(r,op,at_,a),ds,bd,D,d) l (N:Int)=Qbz (C,(u,y,j,t,w),f,B) l N ((tm,(r,op,at_,a),ds,bd,D,d),[]):=hM2 e;have U:=W (O E);obtain⟨L,hMo⟩:=h5 (O E);have Z:f.length≤12:=(Qho (b:=(C,(u,y,j,t,w),f,B)) (hS E).1).1
 refine QA H F (A:=Mach×List Inp) N (fun i s=>St.mk (E2 ((.cell (.ro Qv l))::E1 ((.cell (.ptr 0 0))::(.cell (.ptr 1 0))::E2 ((.cell (.ptr 2 0))::E3 ((.cell (.own 4))::E10 (E5 (E3 ((I N)::(I i)::E5 (E3 (E1 []))))))))))
  [some (.var [.imm (.string C),.imm (.string u),.ro Qap y,.ro Qp j,.ro Qp t,.ro Qp w,.ro Qe f,.ro Qo B]),
   some (.var [iv .i64 s.1.1,.run .i64 9 s.1.2.1.1,iv .i64 s.1.2.1.2.1,iv .i64 s.1.2.1.2.2.1,bv s.1.2.1.2.2.2,.own 3,iv .i64 s.1.2.2.2.1,iv .i64 s.1.2.2.2.2.1,iv .i64 s.1.2.2.2.2.2]),
   some (.var [.imm (.int .i64 0),.run .i64 9 (List.replicate 9 0),.imm (.int .i64 0),.imm (.int .i64 0),.imm (.bool false),.imm (.slice none 0 0),.imm (.int .i64 0),.imm (.int .i64 0),.imm (.int .i64 0)]),some (.arr Qh s.1.2.2.1),some (.arr Qv s.2)])
  (fun k s=>s=Qbz (C,(u,y,j,t,w),f,B) l k ((tm,(r,op,at_,a),ds,bd,D,d),[])) ((tm,(r,op,at_,a),ds,bd,D,d),[]) (.trans (Le.nil 12 Qv rfl) (Le.k [] [0,1,2,3,4] ?_)) rfl fun k s hk Y=>?_
 ·repeat' constructor
 have G:=Qej (l:=l) hMo U k;rw[←Y] at G;have X:nxS (C,(u,y,j,t,w),f,B) l s.1 s.2=Qbz (C,(u,y,j,t,w),f,B) l (k+1) ((tm,(r,op,at_,a),ds,bd,D,d),[]):=by rw[Qa6,←Y];rfl
 obtain⟨⟨tm1,⟨r1,op1,at1,nmi1⟩,ds1,bd1,ba1,bdt1⟩,o⟩:=s;have hcl:(Qs (C,(u,y,j,t,w),f,B) (tm1,(r1,op1,at1,nmi1),ds1,bd1,ba1,bdt1) l).2.length≤f.length:=QbG _ _ _ _;have hol:o.length≤k*f.length:=G.2.2
 repeat' first|(apply Ea;conv=>whnf)|apply Eb|apply Ec|apply Ed|apply Ee|(apply Ei;intro _)|apply Ef H F
 all_goals(try dsimp only[Qf] at *)
 all_goals clear H F
 ·exact⟨⟨⟨J,h6⟩,G.2.1⟩,L,G.1⟩
 ·have g:(k:Int)<(N:Int):=by assumption
  have h7:k*f.length≤100000*12:=Nat.mul_le_mul (by omega) Z;show(o.length+(Qs (C,(u,y,j,t,w),f,B) (tm1,(r1,op1,at1,nmi1),ds1,bd1,ba1,bdt1) l).2.length)*32≤140737488355328;omega
 ·rename_i g;have g:(k:Int)<(N:Int):=g;apply Ex (nxS (C,(u,y,j,t,w),f,B) l (tm1,(r1,op1,at1,nmi1),ds1,bd1,ba1,bdt1) o) [] [0,1,2,3,6]
  ·repeat' constructor
  ·omega
  ·exact QJ (by omega)
  exact X
 ·rename_i g;have g:¬(k:Int)<(N:Int):=g;have ek:k=N:=by omega
  subst ek;have e3:((tm1,(r1,op1,at1,nmi1),ds1,bd1,ba1,bdt1),o)=Qdr (C,(u,y,j,t,w),f,B) (tm,(r,op,at_,a),ds,bd,D,d) l (k:Int):=by rw[e2];exact Y
  exact .mk [] [3,4] _ R R R R R (Yv (fun z:Mach×List Inp=>[some (Blk.arr Qh z.1.2.2.1),some (Blk.arr Qv z.2)]) e3) (Qei (p:=((tm1,(r1,op1,at1,nmi1),ds1,bd1,ba1,bdt1),o)) e3 e.symm)
theorem Qf4{P:Int→Prop}(h0:P 0){l:List Int}(h:∀x∈l,P x)(a:Int):P (Qb0 l a):=by
 unfold Qb0;split
 ·exact h0
 ·split
  ·exact h0
  ·rename_i q E;rw[Yd,Ye (show a.toNat<l.length by omega)];exact h _ (YW _)
theorem Qcc{v:Int}(h:-1048576≤v∧v≤1048576):Q1 v:=by unfold Q1;omega
theorem Qek:Q1 0:=Qcc (by decide)
theorem QAc(N:List Int):0≤Qro N∧Qro N<256:=by
 have q:=Qit (A:=N.getD 1 0) (B:=N.getD 2 0);have E:=QcP (x:=N.getD 0 0%256) (y:=N.getD 2 0%256) (by omega);exact QHh q E
theorem Qww{c:Cv}(F:cP c){d:Dv}(M:u8s d.2)(a:Int):Q1 (Qb8 c d a):=by
 unfold Qb8;split
 ·have:=Qkw (Qih c M) (QE c (QcX c d) a).toNat;exact Qcc (by omega)
 ·split
  ·have h:=(Qp3 F d.1).1;generalize memN c d.1=l at *;cases l with
   |nil=>exact Qek
   |cons x r=>exact h x (YZ ..)
  ·exact Qek
theorem Qwx{c:Cv}(F:cP c){d:Dv}(M:u8s d.2)(a:Int):Q1 (loadI c d a):=by
 have T:=Qkm;refine Qgw _ (Qww F M a) ?_ ?_ ?_ ?_ ?_ ?_ Qek
 ·refine Qf4 Qek (fun x j=>Qcc ?_) a;simp only[Yt,YF,or_false] at j;dsimp only[tA,tC,tF] at j;rcases j with rfl|rfl|rfl|rfl<;>omega
 ·refine Qf4 Qek (fun x j=>Qcc ?_) a;have:=QAc d.1;simp only[Yt,YF,or_false] at j;rcases j with rfl|rfl<;>omega
 ·refine Qf4 Qek (fun x j=>Qcc ?_) a;have:=T (decide (s1 d.1>0));simp only[Yt,YF,or_false] at j;generalize QdS (decide (s1 d.1>0))=z at *;dsimp only[s2,s3,s4,s5] at j;rcases j with rfl|rfl|rfl<;>omega
 ·have:=QdB d.1;have E:=Qkw (Qe5 M) a.toNat;refine Qcc ?_;unfold vrF;dsimp only[vH,bA]
  repeat' split
  all_goals omega
 ·refine Qf4 Qek (fun x j=>Qcc ?_) a;simp only[Yt,YF,or_false] at j;rcases j with rfl|rfl|rfl|rfl|rfl|rfl|rfl|rfl<;>omega
 ·refine Qf4 Qek (fun x j=>Qcc ?_) a;have q:=T (decide (e2 d.1>0));have E:=T (decide (e0 d.1 (qF d.2)=0));simp only[Yt,YF,or_false] at j;generalize QdS (decide (e2 d.1>0))=z at *;generalize QdS (decide (e0 d.1 (qF d.2)=0))=y at *;dsimp only[e1,e6,e7,e8,e9] at j;rcases j with rfl|rfl|rfl|rfl<;>omega
def QI2(c:Cpu):Prop:=∀op at_,Q1 (doF c op at_).1
theorem QEE{c:Cpu}(h:Wf QDt c)(op:Int):∀x∈QW c op,Wf Qp x:=by
 unfold QW;split
 ·exact h.2.2.2.1.2
 ·split
  ·exact h.2.2.2.2.2
  ·split
   ·exact h.2.2.1.2
   ·split
    ·rename_i x j;exact(h.2.1.2 x (List.mem_of_find?_eq_some j)).2.2.2.2
    ·intro x j;cases j
theorem QEF{c:Cpu}(h:Wf QDt c):QI2 c:=by
 intro op at_;unfold doF;split
 ·by_cases hk:at_.toNat<(QW c op).length
  ·rw[Yd,Ye hk];exact Qc3 (QEE h op _ (YW hk)).1
  ·rw[Yd,YK (by omega)];exact Qek
 ·exact Qek
theorem Qwy{c:Cpu}{k:Kor}{i:Bool}(h:Q1 k.2.1∧Q1 k.2.2.1):Q1 (Qbm c k i).2.1∧Q1 (Qbm c k i).2.2.1:=by
 unfold Qbm;split
 ·exact⟨(Qcc (by decide):Q1 257),Qek⟩
 ·split
  ·exact⟨(Qcc (by decide):Q1 256),Qek⟩
  ·exact h
theorem QEG{c:Cpu}{k:Kor}{i:Bool}(G:QI2 c)(h:Q1 k.2.1∧Q1 k.2.2.1) :
 (Q1 (Qk c k i).1.2.1∧Q1 (Qk c k i).1.2.2.1)∧Q1 (Qk c k i).2.1∧Q1 (Qk c k i).2.2.1∧Q1 (Qk c k i).2.2.2:=by
 have K:r16 (QH k.1):=Qiy k.1
 have S:(Q1 (if k.2.1=-1 then Qbm c (QH k.1,k.2) i else (QH k.1,k.2)).2.1∧Q1 (if k.2.1=-1 then Qbm c (QH k.1,k.2) i else (QH k.1,k.2)).2.2.1)∧r16 (if k.2.1=-1 then Qbm c (QH k.1,k.2) i else (QH k.1,k.2)).1:=by
  split
  ·exact⟨Qwy h,by rw[Qew];exact K⟩
  ·exact⟨h,K⟩
 unfold Qk;dsimp only;generalize(if k.2.1=-1 then Qbm c (QH k.1,k.2) i else (QH k.1,k.2))=k1 at *;obtain⟨k2,k3⟩:=S;have hA:∀a,Q1 (plA a k1.1):=fun a=>by have:=QvN a k3;exact Qcc (by omega)
 split
 ·exact⟨k2,(Qcc (by decide):Q1 1),hA 0,Qek⟩
 ·split
  ·exact⟨k2,Qek,Qek,Qek⟩
  ·refine⟨k2,G _ _,hA _,?_⟩;dsimp only;split
   ·exact Qcc (by omega)
   ·exact Qek
theorem QAd{L:Nat}{b:Bd}{ds:List Dv}{x:Bsv}(hL:70000≤L)(F:QrZ L b.2.2.1)(C:Qhl L ds)(j:Q1 x.2.2):Q1 (Qb4 b ds x):=by
 unfold Qb4;split
 ·split
  ·exact Qwx (F.get hL _).1 (C.get _).u _
  ·exact Qcc (by decide)
 ·exact j
theorem QAe{L:Nat}{b:Bd}{m:Mach}(l:List Inp)(h:MOk L b m)(Q:m.2.2.1.length*(L+200)≤1099511627776)(H:Qbc b.2.1 m.2.1)(G:QI2 b.2.1)(ho:Q1 m.2.1.2.1∧Q1 m.2.1.2.2.1) :
 (QcY (Qs b m l).1∧Qm3 (Qs b m l).1)∧Q1 (Qs b m l).1.2.1.2.1∧Q1 (Qs b m l).1.2.1.2.2.1:=by
 have q:=Qez (t:=m.1) h.c l (s:=(m.2.2.1,m.2.1.2.2.2)) h.d h.l;have w:=(Qqo l h).2;have J:=QEG (c:=b.2.1) (k:=(m.2.1.1,m.2.1.2.1,m.2.1.2.2.1,(QM b.2.2.1 m.1 l (m.2.2.1,m.2.1.2.2.2)).2)) (i:=QC b (QM b.2.2.1 m.1 l (m.2.2.1,m.2.1.2.2.2)).1) G ho;unfold Qs at w ⊢;dsimp only at w ⊢;generalize QM b.2.2.1 m.1 l (m.2.2.1,m.2.1.2.2.2)=g at *;generalize Qk b.2.1 (m.2.1.1,m.2.1.2.1,m.2.1.2.2.1,g.2) (QC b g.1)=a at *;have E:=QdI (b:=b) (x:=a.2) h.L1 h.c q.1;have W:=QAd (b:=b) (x:=a.2) h.L1 h.c q.1 J.2.2.2
 have V:∀d∈List.zipWith Qg b.2.2.1 (QaX b g.1 a.2),(Q2 d.1∧u8s d.2)∧List.length d.2≤L:=fun d C=>by
  obtain⟨c,F,e,he,rfl⟩:=QkX C;have D:=Qio (h.c c F).1 (E.1 e he);have U:=(h.c c F).2;exact⟨⟨D.n,D.u⟩,by have:=D.l;omega⟩
 have D:=QzH (c:=b.2.1) (k:=a.1) (d:=Qb4 b g.1 a.2) J.1.1 J.1.2
 have U:Q1 (QL b.2.1 a.1 (Qb4 b g.1 a.2)).2.2.1:=by
  rcases D.2 with D|D
  ·exact D
  ·have:=(QnR H.1 H.2.1 a.1.2.1).1;omega
 have h7:=Qiw b.2.1 a.1 (Qb4 b g.1 a.2);have h8:=QzG b.2.1 a.1 (Qb4 b g.1 a.2);generalize List.zipWith Qg b.2.2.1 (QaX b g.1 a.2)=ds at *;generalize Qb4 b g.1 a.2=I at *
 have p:ds.length≤1099511627776:=by
  have:ds.length*1≤m.2.2.1.length*(L+200):=Nat.mul_le_mul (by omega) (by omega);omega
 refine⟨⟨⟨?_,fun d C=>(V d C).1.1.1,h7,?_⟩,fun d C=>(V d C).1.2⟩,D.1,U⟩
 ·intro n p;have p:n∈[Qcg m.1]++(QL b.2.1 a.1 I).1++[(QL b.2.1 a.1 I).2.1,(QL b.2.1 a.1 I).2.2.1,cond (QL b.2.1 a.1 I).2.2.2 1 0,a.2.1,a.2.2.1,I,(ds.length:Int)]:=p;rcases YN.1 p with p|p
  ·rcases YN.1 p with p|p
   ·rw[Jl] at p;subst p;unfold Qcg Q1;omega
   ·have:=h8 n p;exact Qcc (by omega)
  ·simp only[Yt,YF,or_false] at p;rcases p with rfl|rfl|rfl|rfl|rfl|rfl|rfl
   ·exact D.1
   ·exact U
   ·cases(QL b.2.1 a.1 I).2.2.2<;>exact Qcc (by decide)
   ·exact J.2.1
   ·exact J.2.2.1
   ·exact W
   ·unfold Q1;omega
 ·have h9:=QBZ (f:=QaR) (B:=L+200) (l:=ds) fun d C=>by
   have:=V d C;have:=this.1.1.2;unfold QaR;omega
  show(ds.map QaR).sum≤_;rw[w] at h9;omega
theorem QmT{L:Nat}{b:Bd}{l:List Inp}{m:Mach}(h:MOk L b m)(Q:m.2.2.1.length*(L+200)≤1099511627776)(H:Qbc b.2.1 m.2.1)(G:QI2 b.2.1)(O:QcY m∧Qm3 m) :
 ∀k,(QcY (Qbz b l k (m,[])).1∧Qm3 (Qbz b l k (m,[])).1)∧(Q1 (Qbz b l k (m,[])).1.2.1.2.1∧Q1 (Qbz b l k (m,[])).1.2.1.2.2.1)
 |0=>⟨O,O.1.1 m.2.1.2.1 (List.mem_append_right _ (YZ ..)),O.1.1 m.2.1.2.2.1 (List.mem_append_right _ (YP _ (YZ ..)))⟩
 |k+1=>by
  have q:=Qej (l:=l) h H k;have E:=QmT (l:=l) h Q H G O k;rw[Qa6];refine QAe l q.1 ?_ q.2.1 G E.2;rw[←q.1.l,h.l];exact Q
theorem QiO{m:Mach}(h:QcY m):Qw9 m.2.2.1:=by
 have q:=h.2.2.2;have E:=QfP m.2.2.1;refine⟨by omega,fun d C=>?_⟩;have W:=QcN C;unfold QaR at q W;constructor<;>omega
theorem QiB(m:List Int)(p:Int)(B:Nat)(hB:B≤2560):∀n:Nat,n≤2560→(∀k:Nat,2560-n+1≤k→k≤B→QeJ m p k=false)→(B:Int)≤Qe6 m p n
 |0,_,_=>by show(B:Int)≤100000;omega
 |n+1,V,h=>by
  cases F:QeJ m p (2560-n) with
  |true =>
   rw[Qg9 m p F];by_cases K:2560-n≤B
   ·have:=h (2560-n) (by omega) K;rw[show((2560-n:Nat):Int)=2560-(n:Int) by omega,F] at this;cases this
   ·omega
  |false =>
   rw[QfE m p F];exact QiB m p B hB n (by omega) fun k J D=>h k (by omega) D
theorem QeA(m:List Int)(p:Int)(k:Nat):∀n:Nat,n≤2560→2560-n+1≤k→k≤2560→(k:Int)≤Qe6 m p n→QeJ m p k=false
 |0,_,J,D,_=>by omega
 |n+1,V,J,D,h3=>by
  cases F:QeJ m p (2560-n) with
  |true =>
   rw[Qg9 m p F] at h3;omega
  |false =>
   rw[QfE m p F] at h3;by_cases K:k=2560-n
   ·rw[K,show((2560-n:Nat):Int)=2560-(n:Int) by omega];exact F
   ·exact QeA m p k n (by omega) (by omega) D h3
theorem QmB(m:List Int)(p:Int):∀n:Nat,n≤2560→(∀k:Nat,2560-n+1≤k→k≤2560→QeJ m p k=false)→Qe6 m p n=100000
 |0,_,_=>rfl
 |n+1,V,h=>by
  have F:=h (2560-n) (by omega) (by omega);rw[show((2560-n:Nat):Int)=2560-(n:Int) by omega] at F;rw[QfE m p F];exact QmB m p n (by omega) fun k J D=>h k (by omega) D
theorem Qqr(m:List Int)(p:Int):∀n:Nat,n≤2560→Qe6 m p n=100000∨Qe6 m p n≤2559
 |0,_=>.inl rfl
 |n+1,V=>by
  cases F:QeJ m p (2560-n) with
  |true=>rw[Qg9 m p F];right;omega
  |false=>rw[QfE m p F];exact Qqr m p n (by omega)
theorem Qr0{m:List Int}{p:Int}(h:Qct m p>0):Qaj m ((p+1)%2560)=Qaj m p∧Qct m ((p+1)%2560)≥Qct m p-1:=by
 unfold Qct at *;have J:QeJ m p 1=false:=QeA m p 1 2560 (by decide) (by decide) (by decide) (by omega)
 have e1:Qaj m ((p+1)%2560)=Qaj m p:=by
  unfold QeJ at J;simpa using J
 refine⟨e1,?_⟩
 have hshift:∀k:Nat,k≤2560→(k+1≤2560→QeJ m p ((k+1:Nat):Int)=false)→QeJ m ((p+1)%2560) k=false:=fun k K C=>by
  unfold QeJ at *;rw[e1];have e2:((p+1)%2560+(k:Int))%2560=(p+((k+1:Nat):Int))%2560:=by omega
  rw[e2];by_cases D:k+1≤2560
  ·exact C D
  ·have e3:(p+((k+1:Nat):Int))%2560=(p+1)%2560:=by omega
   rw[e3,e1];simp
 rcases Qqr m p 2560 (by decide) with hr|hr
 ·have:Qe6 m ((p+1)%2560) 2560=100000:=QmB m _ 2560 (by decide) fun k _ K=>hshift k K fun D=>QeA m p (k+1) 2560 (by decide) (by omega) D (by omega)
  omega
 ·have:=QiB m ((p+1)%2560) (Qe6 m p 2560-1).toNat (by omega) 2560 (by decide) fun k _ K=>hshift k (by omega) fun D=>QeA m p (k+1) 2560 (by decide) (by omega) D (by omega)
  omega
theorem QiC{l:List Int}(h:vOk l)(T:Qi l>0):(Qy 1 l).getD 1 0=l.getD 1 0∧(Qy 1 l).getD 4 0=l.getD 4 0∧Qi (Qy 1 l)≥Qi l-1:=by
 cases h with
 | @mk p v r c f w hp hv hr P O hw =>
   have T:min (if p>0 then max 1 (p-c)-1 else 100000) (if r>0∧v>0 then max 1 (r*64-w)-1 else 100000)>0:=T
   have a1:¬((r>0∧v>0)∧w+1≥r*64):=fun C=>by
    rw[Yf C.1] at T;have:=C.2;split at T<;>omega
   have a2:¬(p>0∧c+1≥p):=fun C=>by
    rw[Yf C.1] at T;have:=C.2;split at T<;>omega
   have e:Qy 1 [p,v,r,c,f,w]=[p,v,r,if p>0 then c+1 else c,f,if r>0∧v>0 then w+1 else w]:=by
    unfold Qy;dsimp only;rw[Yb a1,Yb a2];congr 1;congr 1;congr 1;congr 1
    ·split
     ·rename_i J;rw[Yb (fun D=>a2 ⟨J,D⟩)]
     ·rfl
    ·congr 1;congr 1;split
     ·rename_i J;rw[Yb (fun D=>a1 ⟨J,D⟩)]
     ·rfl
   rw[e];refine⟨rfl,rfl,?_⟩;show min _ _≥min _ _-1;split<;>split<;>omega
theorem QN1{L:List Int}(h:vN L=L):∃p C,L=[p,C]∧(0≤p∧p<2560)∧(0≤C∧C<2):=by
 refine⟨vP L,vH L,h.symm,QdB L,?_⟩;dsimp only[vH];omega
theorem Qr1(q:ByteArray)(A cs:Int)(u N M:List Int)(H:u8s M)(j:Nat)(h:QcD (q,3,A,cs,u) (itF (q,3,A,cs,u) (N,M) j)>0) :
 Qat (q,3,A,cs,u) (itF (q,3,A,cs,u) (N,M) (j+1))=Qat (q,3,A,cs,u) (itF (q,3,A,cs,u) (N,M) j)∧QaE (q,3,A,cs,u) (itF (q,3,A,cs,u) (N,M) (j+1))=QaE (q,3,A,cs,u) (itF (q,3,A,cs,u) (N,M) j)∧QcD (q,3,A,cs,u) (itF (q,3,A,cs,u) (N,M) (j+1))≥QcD (q,3,A,cs,u) (itF (q,3,A,cs,u) (N,M) j)-1:=by
 have e0:itF (q,3,A,cs,u) (N,M) j=(Qa1 j (Qbk N),[]):=rfl;have e1:itF (q,3,A,cs,u) (N,M) (j+1)=(Qa1 (j+1) (Qbk N),[]):=rfl;have O:=QfI N j;rw[e0] at h;rw[e0,e1,Qgt];generalize Qa1 j (Qbk N)=L at *;have h:Qd9 L>0:=h;refine⟨show(0:Int)=0 from rfl,?_⟩;show(decide (tF (QaJ L)=1)&&decide (tC (QaJ L)≥4))=(decide (tF L=1)&&decide (tC L≥4))∧Qd9 (QaJ L)≥Qd9 L-1
 obtain⟨a,b,cc,f,rfl,ha,hb,hcc,hff⟩:∃a b cc f:Int,L=[a,b,cc,f]∧(0≤a∧a<65536)∧(0≤b∧b<65536)∧(0≤cc∧cc<8)∧(0≤f∧f<2) :=
  ⟨_,_,_,_,O.symm,by omega,by omega,by omega,by omega⟩
 have h:(if cc%8%2=0 then 100000 else a%65536)>0:=h;by_cases P:cc%2=0
 ·have e:QaJ [a,b,cc,f]=[a,b,cc,f]:=Yf P;rw[e];exact⟨rfl,by omega⟩
 ·rw[Yb (by omega)] at h
  have e:QaJ [a,b,cc,f]=[a-1,b,cc,f]:=by
   unfold QaJ;dsimp only;rw[Yb P,Yf (by omega)]
  rw[e];refine⟨rfl,?_⟩;show(if cc%8%2=0 then 100000 else (a-1)%65536)≥(if cc%8%2=0 then 100000 else a%65536)-1;rw[Yb (by omega),Yb (by omega)];omega
theorem Qr2(q:ByteArray)(A cs:Int)(u N M:List Int)(H:u8s M)(j:Nat)(h:QcD (q,5,A,cs,u) (itF (q,5,A,cs,u) (N,M) j)>0) :
 Qat (q,5,A,cs,u) (itF (q,5,A,cs,u) (N,M) (j+1))=Qat (q,5,A,cs,u) (itF (q,5,A,cs,u) (N,M) j)∧QaE (q,5,A,cs,u) (itF (q,5,A,cs,u) (N,M) (j+1))=QaE (q,5,A,cs,u) (itF (q,5,A,cs,u) (N,M) j)∧QcD (q,5,A,cs,u) (itF (q,5,A,cs,u) (N,M) (j+1))≥QcD (q,5,A,cs,u) (itF (q,5,A,cs,u) (N,M) j)-1:=by
 have e0:itF (q,5,A,cs,u) (N,M) j=(Qr Qah j (Qbe N),[]):=rfl;have e1:itF (q,5,A,cs,u) (N,M) (j+1)=(Qr Qah (j+1) (Qbe N),[]):=rfl;have O:=Qer N j;rw[e0] at h;rw[e0,e1,QX];generalize Qr Qah j (Qbe N)=L at *;have h:Qea L>0:=h;show s6 (Qah L)*256+s7 (Qah L)=s6 L*256+s7 L∧QcW (Qah L)=QcW L∧Qea (Qah L)≥Qea L-1
 obtain⟨a,l,g,f,o,cc,s,z,rfl,W⟩:∃a l g f o cc s z:Int,L=[a,l,g,f,o,cc,s,z]∧(0≤l∧l<64) :=
  ⟨_,_,_,_,_,_,_,_,O.symm,by dsimp only[s1];omega⟩
 have h:(if l%64=0 then 100000 else l%64-1)>0:=h;by_cases U:l>0
 ·rw[Yb (by omega)] at h
  have e:Qah [a,l,g,f,o,cc,s,z]=[a,l-1,g,f,o,cc,s,z]:=by
   unfold Qah;dsimp only;rw[Yf U,Yb (by omega)]
  rw[e];refine⟨rfl,?_,?_⟩
  ·show((decide (cc%4%2=1)&&decide (f%2=1))||(decide (cc%4≥2)&&decide ((l-1)%64=0)))=((decide (cc%4%2=1)&&decide (f%2=1))||(decide (cc%4≥2)&&decide (l%64=0)))
   rw[Yn (show¬(l-1)%64=0 by omega),Yn (show¬l%64=0 by omega)]
  ·show(if (l-1)%64=0 then 100000 else (l-1)%64-1)≥(if l%64=0 then 100000 else l%64-1)-1;rw[Yb (by omega),Yb (by omega)];omega
 ·have e:Qah [a,l,g,f,o,cc,s,z]=[a,l,g,f,o,cc,s,z]:=Yb U;rw[e];exact⟨rfl,rfl,by omega⟩
theorem Qr3(q:ByteArray)(A cs:Int)(u N M:List Int)(H:u8s M)(j:Nat)(h:QcD (q,6,A,cs,u) (itF (q,6,A,cs,u) (N,M) j)>0) :
 Qat (q,6,A,cs,u) (itF (q,6,A,cs,u) (N,M) (j+1))=Qat (q,6,A,cs,u) (itF (q,6,A,cs,u) (N,M) j)∧QaE (q,6,A,cs,u) (itF (q,6,A,cs,u) (N,M) (j+1))=QaE (q,6,A,cs,u) (itF (q,6,A,cs,u) (N,M) j)∧QcD (q,6,A,cs,u) (itF (q,6,A,cs,u) (N,M) (j+1))≥QcD (q,6,A,cs,u) (itF (q,6,A,cs,u) (N,M) j)-1:=by
 have e0:itF (q,6,A,cs,u) (N,M) j=(Qr (QaV (vM M)) j (vN N),vM M):=rfl;have e1:itF (q,6,A,cs,u) (N,M) (j+1)=(Qr (QaV (vM M)) (j+1) (vN N),vM M):=rfl;have O:=QgB (vM M) N j;rw[e0] at h;rw[e0,e1,QX];generalize Qr (QaV (vM M)) j (vN N)=L at *;obtain⟨p,C,rfl,hp,hh2⟩:=QN1 O;have h:Qct (vM (vM M)) (vP [p,C])>0:=h
 have ep:vP [p,C]=p:=by
  show(if ([p,C]:List Int).length=0 then 2559 else p%2560)=p;rw[Yb (by simp)];omega
 have ep2:∀y,vP [(p+1)%2560,y]=(p+1)%2560:=fun y=>by
  show(if ([(p+1)%2560,y]:List Int).length=0 then 2559 else (p+1)%2560%2560)=_;rw[Yb (by simp)];omega
 rw[ep] at h;obtain⟨g1,g2⟩:=Qr0 h;refine⟨?_,rfl,?_⟩
 ·show Qaj (vM (vM M)) (vP [(p+1)%2560,_])=Qaj (vM (vM M)) (vP [p,C]);rw[ep,ep2];exact g1
 ·show Qct (vM (vM M)) (vP [(p+1)%2560,_])≥Qct (vM (vM M)) (vP [p,C])-1;rw[ep,ep2];exact g2
theorem Qr4(q:ByteArray)(A cs:Int)(u N M:List Int)(H:u8s M)(j:Nat)(h:QcD (q,7,A,cs,u) (itF (q,7,A,cs,u) (N,M) j)>0) :
 Qat (q,7,A,cs,u) (itF (q,7,A,cs,u) (N,M) (j+1))=Qat (q,7,A,cs,u) (itF (q,7,A,cs,u) (N,M) j)∧QaE (q,7,A,cs,u) (itF (q,7,A,cs,u) (N,M) (j+1))=QaE (q,7,A,cs,u) (itF (q,7,A,cs,u) (N,M) j)∧QcD (q,7,A,cs,u) (itF (q,7,A,cs,u) (N,M) (j+1))≥QcD (q,7,A,cs,u) (itF (q,7,A,cs,u) (N,M) j)-1:=by
 have e0:itF (q,7,A,cs,u) (N,M) j=(Qr QaP j (Qao N),[]):=rfl;have e1:itF (q,7,A,cs,u) (N,M) (j+1)=(Qr QaP (j+1) (Qao N),[]):=rfl;have O:=QgC N j;rw[e0] at h;rw[e0,e1,QX];generalize Qr QaP j (Qao N)=L at *;have h:min (Qi (vo L 0)) (Qi (vo L 6))>0:=h;have eL:L=vo L 0++vo L 6:=O.symm
 have e2:QaP L=Qy 1 (vo L 0)++Qy 1 (vo L 6):=by
  conv=>lhs;rw[eL]
  exact Qif (Qaq L 0).len
 have p0:=QiC (Qaq L 0) (by omega);have p6:=QiC (Qaq L 6) (by omega);have k0:=QbU (Qaq L 0) (k:=1) (by omega);have k6:=QbU (Qaq L 6) (k:=1) (by omega)
 have Z:∀{x y:List Int},vOk x→vOk y→vo (x++y) 0=x∧vo (x++y) 6=y:=fun Q hy=>by
  cases Q with
  |mk a1 a2 a3 a4 a5 a6 =>
   cases hy with
   |mk b1 b2 b3 b4 b5 b6 =>
    constructor
    ·unfold vo;simp only[List.cons_append,List.nil_append,List.getD_cons_zero,List.getD_cons_succ];congr 1
     ·omega
     ·congr 1
      ·omega
      ·congr 1
       ·omega
       ·congr 1
        ·omega
        ·congr 1
         ·omega
         ·congr 1;omega
    ·unfold vo;simp only[List.cons_append,List.nil_append,List.getD_cons_zero,List.getD_cons_succ];congr 1
     ·omega
     ·congr 1
      ·omega
      ·congr 1
       ·omega
       ·congr 1
        ·omega
        ·congr 1
         ·omega
         ·congr 1;omega
 have G:=Z k0 k6;rw[←e2] at G;have sh:∀X:List Int,Qi1 X=(vo X 0).getD 1 0*(vo X 0).getD 4 0+(vo X 6).getD 1 0*(vo X 6).getD 4 0:=fun X=>rfl
 refine⟨?_,rfl,?_⟩
 ·show Qi1 (QaP L)=Qi1 L;rw[sh,sh,G.1,G.2,p0.1,p0.2.1,p6.1,p6.2.1]
 ·show min (Qi (vo (QaP L) 0)) (Qi (vo (QaP L) 6))≥min (Qi (vo L 0)) (Qi (vo L 6))-1;rw[G.1,G.2];have:=p0.2.2;have:=p6.2.2;omega
theorem Qr5(q:ByteArray)(A cs:Int)(u N M:List Int)(H:u8s M)(j:Nat)(h:QcD (q,8,A,cs,u) (itF (q,8,A,cs,u) (N,M) j)>0) :
 Qat (q,8,A,cs,u) (itF (q,8,A,cs,u) (N,M) (j+1))=Qat (q,8,A,cs,u) (itF (q,8,A,cs,u) (N,M) j)∧QaE (q,8,A,cs,u) (itF (q,8,A,cs,u) (N,M) (j+1))=QaE (q,8,A,cs,u) (itF (q,8,A,cs,u) (N,M) j)∧QcD (q,8,A,cs,u) (itF (q,8,A,cs,u) (N,M) (j+1))≥QcD (q,8,A,cs,u) (itF (q,8,A,cs,u) (N,M) j)-1:=by
 have e0:itF (q,8,A,cs,u) (N,M) j=Qa9 Qay j (dN N (qF M),dM M):=rfl;have e1:itF (q,8,A,cs,u) (N,M) (j+1)=Qa9 Qay (j+1) (dN N (qF M),dM M):=rfl;have hok:=Qg7 (QFM N H) j;rw[e0] at h;rw[e0,e1,Qgr];generalize Qa9 Qay j (dN N (qF M),dM M)=S at *;obtain⟨L,mm⟩:=S;have V:=hok.n;cases V with
 | @mk k t cc s i l dd r o x K ht P hs hi W F hr ho Q =>
   have hcm:cc%8=cc:=by omega
   have hlm:l%64=l:=by omega
   have E:∀k t cc s i l dd r o x mm,(0≤cc∧cc≤4)→(0≤l∧l<64)→QcD (q,8,A,cs,u) ([k,t,cc,s,i,l,dd,r,o,x],mm)=if cc=0 then 100000 else max 1 l-1:=fun k t cc s i l dd r o x mm J D=>by
    show(if (if cc%8>4 then 0 else cc%8)=0 then 100000 else max 1 (l%64)-1)=_;rw[show cc%8=cc by omega,show l%64=l by omega,Yb (show¬cc>4 by omega)]
   rw[E _ _ _ _ _ _ _ _ _ _ _ P W] at h ⊢;by_cases U:cc>0
   ·rw[Yb (by omega)] at h ⊢;by_cases hz:cc>2∧k=0
    ·have e:Qay ([k,t,cc,s,i,l,dd,r,o,x],mm)=([k,t,0,s,i,l,dd,r,o,x],mm):=by
      unfold Qay;dsimp only;rw[Yf U,Yf hz]
     rw[e];refine⟨show t%4=t%4 from rfl,show(decide (x%2=1)&&decide (r%2=1))=(decide (x%2=1)&&decide (r%2=1)) from rfl,?_⟩;rw[E _ _ _ _ _ _ _ _ _ _ _ (by omega) W];rw[Yf rfl];omega
    ·have e:Qay ([k,t,cc,s,i,l,dd,r,o,x],mm)=([k,t,cc,s,i,l-1,dd,r,o,x],mm):=by
      unfold Qay;dsimp only;rw[Yf U,Yb hz,Yf (by omega)]
     rw[e];refine⟨show t%4=t%4 from rfl,show(decide (x%2=1)&&decide (r%2=1))=(decide (x%2=1)&&decide (r%2=1)) from rfl,?_⟩;rw[E _ _ _ _ _ _ _ _ _ _ _ P (by omega),Yb (by omega)];omega
   ·have e:Qay ([k,t,cc,s,i,l,dd,r,o,x],mm)=([k,t,cc,s,i,l,dd,r,o,x],mm):=by
     unfold Qay;dsimp only;rw[Yb U]
    rw[e];refine⟨show t%4=t%4 from rfl,show(decide (x%2=1)&&decide (r%2=1))=(decide (x%2=1)&&decide (r%2=1)) from rfl,?_⟩;rw[E _ _ _ _ _ _ _ _ _ _ _ P W];omega
theorem QvQ(c:Cv)(d:Dv)(H:u8s d.2)(j:Nat)(h:QcD c (itF c d j)>0) :
 Qat c (itF c d (j+1))=Qat c (itF c d j)∧QaE c (itF c d (j+1))=QaE c (itF c d j)∧QcD c (itF c d (j+1))≥QcD c (itF c d j)-1:=by
 obtain⟨q,Y,A,cs,u⟩:=c;obtain⟨N,M⟩:=d;rcases kinds Y with rfl|rfl|rfl|rfl|rfl|rfl|rfl|rfl|rfl|Q
 ·exact⟨rfl,rfl,by show(100000:Int)≥100000-1;omega⟩
 ·exact⟨rfl,rfl,by show(100000:Int)≥100000-1;omega⟩
 ·exact⟨rfl,rfl,by show(100000:Int)≥100000-1;omega⟩
 ·exact Qr1 q A cs u N M H j h
 ·exact⟨rfl,rfl,by show(100000:Int)≥100000-1;omega⟩
 ·exact Qr2 q A cs u N M H j h
 ·exact Qr3 q A cs u N M H j h
 ·exact Qr4 q A cs u N M H j h
 ·exact Qr5 q A cs u N M H j h
 ·have r0:∀d,QcD (q,Y,A,cs,u) d=100000:=fun d=>by unfold QcD;rw[Qai Q]
  have k0:∀d,QaE (q,Y,A,cs,u) d=false:=fun d=>by unfold QaE;rw[Qai Q]
  have w0:∀d,Qat (q,Y,A,cs,u) d=0:=fun d=>by unfold Qat;rw[Qai Q]
  rw[r0,r0,k0,k0,w0,w0];exact⟨rfl,rfl,by omega⟩
theorem QgD(N:List Int):vP (vN N)=vP N:=by
 have:=QdB N;show(if ([vP N,vH N]:List Int).length=0 then 2559 else vP N%2560)=vP N;rw[Yb (by simp)];omega
theorem QzI(N:List Int):vo (Qao N) 0=vo N 0:=by
 show[N.getD 0 0%4096%4096,N.getD 1 0%16%16,N.getD 2 0%256%256,N.getD 3 0%4096%4096,N.getD 4 0%2%2,N.getD 5 0%16384%16384]=_;simp only[Ys];rfl
theorem QzJ(N:List Int):vo (Qao N) 6=vo N 6:=by
 show[N.getD 6 0%4096%4096,N.getD 7 0%16%16,N.getD 8 0%256%256,N.getD 9 0%4096%4096,N.getD 10 0%2%2,N.getD 11 0%16384%16384]=_;simp only[Ys];rfl
theorem Qcz(c:Cv)(d:Dv):Qat c (Q9 c d)=Qat c d∧QaE c (Q9 c d)=QaE c d∧QcD c (Q9 c d)=QcD c d:=by
 obtain⟨g,a,m,cs,i⟩:=c;obtain⟨N,M⟩:=d;rcases kinds a with rfl|rfl|rfl|rfl|rfl|rfl|rfl|rfl|rfl|b
 ·exact⟨show(0:Int)=0 from rfl,show false=false from rfl,show(100000:Int)=100000 from rfl⟩
 ·exact⟨show(0:Int)=0 from rfl,show false=false from rfl,show(100000:Int)=100000 from rfl⟩
 ·exact⟨show(0:Int)=0 from rfl,show false=false from rfl,show(100000:Int)=100000 from rfl⟩
 ·refine⟨show(0:Int)=0 from rfl,?_,?_⟩
  ·show(decide (N.getD 3 0%2%2=1)&&decide (N.getD 2 0%8%8≥4))=(decide (N.getD 3 0%2=1)&&decide (N.getD 2 0%8≥4))
   rw[Ys,Ys]
  ·show(if N.getD 2 0%8%8%2=0 then 100000 else N.getD 0 0%65536%65536)=(if N.getD 2 0%8%2=0 then 100000 else N.getD 0 0%65536)
   rw[Ys,Ys]
 ·refine⟨?_,show false=false from rfl,show(100000:Int)=100000 from rfl⟩;show land .i64 (N.getD 1 0%256%256) (N.getD 2 0%256%256)=land .i64 (N.getD 1 0%256) (N.getD 2 0%256);rw[Ys,Ys]
 ·refine⟨?_,?_,?_⟩
  ·show N.getD 6 0%1048576%1048576*256+N.getD 7 0%256%256=N.getD 6 0%1048576*256+N.getD 7 0%256;rw[Ys,Ys]
  ·show((decide (N.getD 5 0%4%4%2=1)&&decide (N.getD 3 0%2%2=1))||(decide (N.getD 5 0%4%4≥2)&&decide (N.getD 1 0%64%64=0)))=((decide (N.getD 5 0%4%2=1)&&decide (N.getD 3 0%2=1))||(decide (N.getD 5 0%4≥2)&&decide (N.getD 1 0%64=0)))
   rw[Ys,Ys,Ys]
  ·show(if N.getD 1 0%64%64=0 then 100000 else N.getD 1 0%64%64-1)=(if N.getD 1 0%64=0 then 100000 else N.getD 1 0%64-1)
   rw[Ys]
 ·refine⟨?_,show false=false from rfl,?_⟩
  ·show Qaj (vM (vM M)) (vP (vN N))=Qaj (vM M) (vP N);rw[QbY,QgD]
  ·show Qct (vM (vM M)) (vP (vN N))=Qct (vM M) (vP N);rw[QbY,QgD]
 ·have h:=Qdn N;refine⟨?_,show false=false from rfl,?_⟩
  ·show Qi1 (Qao N)=Qi1 N;show N.getD 1 0%16%16*(N.getD 4 0%2%2)+N.getD 7 0%16%16*(N.getD 10 0%2%2)=N.getD 1 0%16*(N.getD 4 0%2)+N.getD 7 0%16*(N.getD 10 0%2);rw[Ys,Ys,Ys,Ys]
  ·show min (Qi (vo (Qao N) 0)) (Qi (vo (Qao N) 6))=min (Qi (vo N 0)) (Qi (vo N 6));rw[show vo (Qao N) 0=vo N 0 from QzI N,show vo (Qao N) 6=vo N 6 from QzJ N]
 ·refine⟨?_,?_,?_⟩
  ·show N.getD 1 0%4%4=N.getD 1 0%4;rw[Ys]
  ·show(decide (N.getD 9 0%2%2=1)&&decide (N.getD 7 0%2%2=1))=(decide (N.getD 9 0%2=1)&&decide (N.getD 7 0%2=1))
   rw[Ys,Ys]
  ·have e2:(if (if N.getD 2 0%8>4 then 0 else N.getD 2 0%8)%8>4 then 0 else (if N.getD 2 0%8>4 then 0 else N.getD 2 0%8)%8)=(if N.getD 2 0%8>4 then 0 else N.getD 2 0%8):=by
    split<;>(try split)<;>omega
   show(if (if (if N.getD 2 0%8>4 then 0 else N.getD 2 0%8)%8>4 then 0 else (if N.getD 2 0%8>4 then 0 else N.getD 2 0%8)%8)=0 then 100000 else max 1 (N.getD 5 0%64%64)-1)=(if (if N.getD 2 0%8>4 then 0 else N.getD 2 0%8)=0 then 100000 else max 1 (N.getD 5 0%64)-1)
   rw[e2,Ys]
 ·have r0:∀d,QcD (g,a,m,cs,i) d=100000:=fun d=>by unfold QcD;rw[Qai b]
  have k0:∀d,QaE (g,a,m,cs,i) d=false:=fun d=>by unfold QaE;rw[Qai b]
  have w0:∀d,Qat (g,a,m,cs,i) d=0:=fun d=>by unfold Qat;rw[Qai b]
  rw[r0,r0,k0,k0,w0,w0];exact⟨rfl,rfl,rfl⟩
theorem QiD(c:Cv)(d:Dv)(hu:u8s d.2):∀j:Nat,(j:Int)≤QcD c d→Qat c (itF c d j)=Qat c d∧QaE c (itF c d j)=QaE c d∧QcD c (itF c d j)≥QcD c d-j
 |0,_=>by
  rw[Qhm];obtain⟨f,e,h3⟩:=Qcz c d;exact⟨f,e,by rw[h3];omega⟩
 |j+1,h=>by
  obtain⟨f,e,h3⟩:=QiD c d hu j (by omega);obtain⟨g1,g2,g3⟩:=QvQ c d hu j (by omega);exact⟨g1.trans f,g2.trans e,by omega⟩
def QeL:List Cv→List Dv→Int→Int
 |c::cs,d::ds,n=>QeL cs ds (imin n (QcD c d))
 |_,_,n=>n
def QaY(b:Bd)(m:Mach):Int:=QeL b.2.2.1 m.2.2.1 100000
theorem QmC(cs:List Cv)(n:Int):QeL cs [] n=n:=by cases cs<;>rfl
theorem QjC{cs:List Cv}{ds:List Dv}{k:Nat}(s:k<cs.length)(n:Int):QeL (cs.drop k) (ds.drop k) n=QeL (cs.drop (k+1)) (ds.drop (k+1)) (if k<ds.length then imin n (QcD (cs.getD k (dflt Qe)) (ds.getD k (dflt Qh))) else n):=by
 have e2:cs.drop k=cs.getD k (dflt Qe)::cs.drop (k+1):=by rw[YJ s,Yd,Ye s];rfl
 by_cases h:k<ds.length
 ·have e3:ds.drop k=ds.getD k (dflt Qh)::ds.drop (k+1):=by rw[YJ h,Yd,Ye h];rfl
  rw[e2,e3,Yf h];rfl
 ·rw[show ds.drop k=[] from Yk (by omega),show ds.drop (k+1)=[] from Yk (by omega),Yb h,QmC,QmC]
theorem QvR{cs:List Cv}{ds:List Dv}{k:Nat}(s:¬k<cs.length)(n:Int):QeL (cs.drop k) (ds.drop k) n=n:=by
 rw[show cs.drop k=[] from Yk (by omega)];rfl
def QHu(b:Bd)(m:Mach):Prop:=b.2.2.1.length*64≤140737488351232∧(∀c∈b.2.2.1,cP c)∧∀d∈m.2.2.1,dP d
def QHv:PSpec:=⟨[gBd,gM],fun(b,m,_)=>(some (QHu b m),I (QaY b m),[])⟩
theorem QzK:G0 31 QHv.spec:=by
 have f:S0 _:=Qa QyM (Qb (T:=tree));have p:=tabs f Qc;refine QHv.gd p f Tryz.func31 fun(b:Bd) (m:Mach) hq=>?_
 obtain⟨hl,w,u⟩:QHu b m:=hq _ rfl;clear hq;have x:QaY b m=QeL b.2.2.1 m.2.2.1 100000:=rfl;obtain⟨bn,⟨un,ui,ur,uq,um⟩,a,bw⟩:=b;obtain⟨tm,⟨r,op,at_,j⟩,ds,bd,ba,q⟩:=m;have x:QaY (bn,(un,ui,ur,uq,um),a,bw) (tm,(r,op,at_,j),ds,bd,ba,q)=QeL a ds 100000:=x;have hl:a.length*64≤140737488351232:=hl;have w:∀c∈a,cP c:=w;have u:∀d∈ds,dP d:=u
 repeat' first|(apply Ea;conv=>whnf)|apply Eb|apply Ec|apply Ed|apply Ee|(apply Ei;intro _)|apply Ef p f
 refine QA p f (A:=Int) a.length (fun i o=>St.mk (E3 ((.cell (.ptr 0 0))::E1 ((I o)::E3 ((.cell (.ro Qe a))::(I a.length)::(I i)::E20 []))))
  [some (.var [.imm (.int .i64 tm),.run .i64 9 r,.imm (.int .i64 op),.imm (.int .i64 at_),.imm (.bool j),.ro Qh ds,.imm (.int .i64 bd),.imm (.int .i64 ba),.imm (.int .i64 q)])])
  (fun k o=>QeL (a.drop k) (ds.drop k) o=QeL a ds 100000) 100000 (Le.k [] [1] ?_) rfl fun k o s t=>?_
 ·repeat' constructor
 repeat' first|(apply Ea;conv=>whnf)|apply Eb|apply Ec|apply Ed|apply Ee|(apply Ei;intro _)|apply Ef p f
 all_goals(try dsimp only[Qf] at *)
 all_goals clear p f
 ·rename_i g;have g:(k:Int)<(a.length:Int):=g;show 0≤(k:Int)∧(k:Int)<(a.length:Int);omega
 ·rename_i g e;have e:(k:Int)<(ds.length:Int):=e;show 0≤(k:Int)∧(k:Int)<(ds.length:Int);omega
 ·rename_i g e;have g:(k:Int)<(a.length:Int):=g;have e:(k:Int)<(ds.length:Int):=e;exact⟨w _ (QK (dflt Qe) (show k<a.length by omega)),u _ (QK (dflt Qh) (show k<ds.length by omega))⟩
 ·rename_i g e;have g:(k:Int)<(a.length:Int):=g;have e:(k:Int)<(ds.length:Int):=e;apply Ex _ [] [0]
  ·repeat' constructor
  ·omega
  ·exact QJ (by omega)
  rw[←t,QjC (k:=k) (by omega),Yf (by omega)];rfl
 ·rename_i g e;have g:(k:Int)<(a.length:Int):=g;have e:¬(k:Int)<(ds.length:Int):=e;apply Ex _ [] [0]
  ·repeat' constructor
  ·omega
  ·exact QJ (by omega)
  rw[←t,QjC (k:=k) (by omega),Yb (by omega)]
 ·rename_i g;have g:¬(k:Int)<(a.length:Int):=g;refine .k [] [] _ rfl (Qd ?_);rw[x,←t,QvR (by omega)]
abbrev RgT:Ty:=.pair (.int .i64) (.pair (.int .i64) (.int .i64))
abbrev Rg:=Int×Int×Int
def stepM(l:List Rg)(n:Nat)(v:Int):List Rg :=
 if 0<l.length∧(l.getD (l.length-1) (dflt RgT)).2.2=v then l.set (l.length-1) ((l.getD (l.length-1) (dflt RgT)).1,(n:Int)+1,(l.getD (l.length-1) (dflt RgT)).2.2) else l++[((n:Int),(n:Int)+1,v)]
def QI3(f:Int→Int):Nat→List Rg
 |0=>[]
 |k+1=>stepM (QI3 f k) k (f k)
structure MapInv(f:Int→Int)(l:List Rg)(n:Nat):Prop where
 len:l.length≤n
 pos:0<n→0<l.length
 last:0<l.length→(l.getD (l.length-1) (dflt RgT)).2.1=n
 zero:0<l.length→(l.getD 0 (dflt RgT)).1=0
 each:∀i<l.length,0≤(l.getD i (dflt RgT)).1∧(l.getD i (dflt RgT)).1<(l.getD i (dflt RgT)).2.1∧(l.getD i (dflt RgT)).2.1≤n∧∀a:Int,(l.getD i (dflt RgT)).1≤a→a<(l.getD i (dflt RgT)).2.1→f a=(l.getD i (dflt RgT)).2.2
 next:∀i,i+1<l.length→(l.getD (i+1) (dflt RgT)).1=(l.getD i (dflt RgT)).2.1∧(l.getD (i+1) (dflt RgT)).2.2≠(l.getD i (dflt RgT)).2.2
theorem QdK{α:Type}{l:List α}{i:Nat}{x d:α}(h:i<l.length):(l.set i x).getD i d=x:=by
 rw[Yd,List.getElem?_set_self h];rfl
theorem QcC{α:Type}{l:List α}{i j:Nat}{x d:α}(h:i≠j):(l.set i x).getD j d=l.getD j d:=by
 rw[Yd,List.getElem?_set_ne h,Yd]
theorem Qdq{α:Type}{l:List α}{i:Nat}{x d:α}(h:i<l.length):(l++[x]).getD i d=l.getD i d:=by
 rw[Yd,YX h,Yd]
theorem QeE{α:Type}{l:List α}{i:Nat}{x d:α}(h:i=l.length):(l++[x]).getD i d=x:=by
 subst h;rw[Yd,YO (YE _),Jk];rfl
theorem MapInv.step{f:Int→Int}{l:List Rg}{n:Nat}(h:MapInv f l n):MapInv f (stepM l n (f n)) (n+1):=by
 unfold stepM;split
 ·rename_i g;obtain⟨p,m⟩:=g;have q:l.length-1<l.length:=by omega
  have c:=h.last p;refine⟨by rw[YH];have:=h.len;omega,fun _=>by rw[YH];omega,fun _=>?_,fun _=>?_,fun i b=>?_,fun i b=>?_⟩
  ·rw[YH,QdK q];simp
  ·by_cases e:l.length-1=0
   ·rw[e,QdK (by omega)];exact h.zero p
   ·rw[QcC (by omega)];exact h.zero p
  ·rw[YH] at b;by_cases e:l.length-1=i
   ·subst e;obtain⟨a1,a2,a3,a4⟩:=h.each _ b;rw[QdK b];refine⟨a1,by show _<(n:Int)+1;omega,by show(n:Int)+1≤_;omega,fun a b1 b2=>?_⟩;have b2:a<(n:Int)+1:=b2;by_cases e2:a=n
    ·subst e2;exact m.symm
    ·exact a4 a b1 (by omega)
   ·obtain⟨a1,a2,a3,a4⟩:=h.each _ b;rw[QcC e];exact⟨a1,a2,by omega,a4⟩
  ·rw[YH] at b;obtain⟨a1,a2⟩:=h.next i b;by_cases e:l.length-1=i+1
   ·rw[e,QdK (by omega),QcC (by omega)];exact⟨a1,a2⟩
   ·rw[QcC e,QcC (by omega)];exact⟨a1,a2⟩
 ·rename_i g;refine⟨by rw[Ym];have:=h.len;simp;omega,fun _=>by simp,fun _=>?_,fun _=>?_,fun i b=>?_,fun i b=>?_⟩
  ·rw[QeE (by simp)];simp
  ·by_cases e:l.length=0
   ·have:n=0:=by
     rcases Nat.eq_zero_or_pos n with e2|e2
     ·exact e2
     ·have:=h.pos e2;omega
    rw[QeE e.symm,this];rfl
   ·rw[Qdq (by omega)];exact h.zero (by omega)
  ·rw[Ym,Jj] at b;by_cases e:i=l.length
   ·rw[QeE e];refine⟨by show(0:Int)≤n;omega,by show(n:Int)<n+1;omega,by show(n:Int)+1≤_;omega,fun a b1 b2=>?_⟩;have b1:(n:Int)≤a:=b1;have b2:a<(n:Int)+1:=b2;have:a=n:=by omega
    rw[this]
   ·obtain⟨a1,a2,a3,a4⟩:=h.each i (by omega);rw[Qdq (by omega)];exact⟨a1,a2,by omega,a4⟩
  ·rw[Ym,Jj] at b;by_cases e:i+1=l.length
   ·rw[QeE e,Qdq (by omega)];have c:=h.last (by omega);have e3:l.length-1=i:=by omega
    rw[e3] at c g;refine⟨c.symm,fun h2=>g ⟨by omega,h2.symm⟩⟩
   ·rw[Qdq (by omega),Qdq (by omega)];exact h.next i (by omega)
theorem map_set{f:Int→Int}{l:List Rg}{k:Nat}{v:Int}(hl:l=QI3 f k)(m:f k=v)(hw:i64.wrap ((l.length:Int)-1)=(l.length:Int)-1)(hj:i64.wrap ((k:Int)+1)=(k:Int)+1)(h0:i64.wrap ((l.length:Int)-1)≥0)
 (g:(l.getD (i64.wrap ((l.length:Int)-1)).toNat (dflt RgT)).2.2=v) :
 l.set (i64.wrap ((l.length:Int)-1)).toNat ((l.getD (i64.wrap ((l.length:Int)-1)).toNat (dflt RgT)).1,i64.wrap ((k:Int)+1),(l.getD (i64.wrap ((l.length:Int)-1)).toNat (dflt RgT)).2.2)=QI3 f (k+1):=by
 rw[hw] at *;have e:((l.length:Int)-1).toNat=l.length-1:=by omega
 rw[e] at g ⊢;show _=stepM (QI3 f k) k (f k);rw[←hl,hj,m];unfold stepM;rw[Yf ⟨by omega,g⟩]
theorem QCa{x:Int}(h:(Lit.int .i64 x).wf=true):i6Q x:=by
 have:=h;simp[Lit.wf] at this;exact this
theorem QK9{c:Cv}(h:Wf gC.t c):cP c:=⟨QCa h.2.2.1,QCa h.2.2.2.1,YG (Nat.le_of_eq (Nat.mul_one _).symm) h.2.2.2.2.1⟩
end Go.Proofs.YtofgbclopbmlcaaGreat

