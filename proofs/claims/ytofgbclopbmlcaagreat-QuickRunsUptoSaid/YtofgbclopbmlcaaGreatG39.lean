/- Part 39 of the proof. Conditions: none. -/
import Derived.Test.YtofgbclopbmlcaaGreatG38
import Derived.Test.YtofgbclopbmlcaaGreatG26
import Derived.Test.YtofgbclopbmlcaaGreatG35
import Derived.Test.YtofgbclopbmlcaaGreatG17
namespace Go.Proofs.YtofgbclopbmlcaaGreat
open Go.IntKind (i64)
set_option maxHeartbeats 8000000
open Go.Fw
set_option linter.unusedVariables false
set_option linter.unusedSimpArgs false
set_option linter.constructorNameAsVariable false
set_option maxRecDepth 100000
theorem QnQ{c:Cv}(h:QV c=0):(0≤c.2.1∧c.2.1≤8)∧(1≤c.2.2.2.1∧c.2.2.2.1≤4096)∧0≤c.2.2.1∧c.2.2.1≤65536-c.2.2.2.1:=by
 obtain⟨cn,ck,cb,cs,cd⟩:=c;unfold QV at h;dsimp only at h ⊢
 repeat' split at h
 all_goals first
  |(exfalso;revert h;decide)
  |skip
 all_goals
  rcases kinds ck with rfl|rfl|rfl|rfl|rfl|rfl|rfl|rfl|rfl|hx
 all_goals(try simp only[Qk0] at *)
 all_goals first
  |omega
  |(simp only[QcA,sel] at *;omega)
  |(simp[QcA,sel] at *;omega)
theorem Qms{c d:Cv}(hc:QV c=0)(hd:QV d=0) :
 (imax c.2.2.1 d.2.2.1<imin (i64.wrap (c.2.2.1+c.2.2.2.1)) (i64.wrap (d.2.2.1+d.2.2.2.1)))↔(c.2.2.1<i64.wrap (d.2.2.1+d.2.2.2.1)∧d.2.2.1<i64.wrap (c.2.2.1+c.2.2.2.1)):=by
 have h1:=QnQ hc;have h2:=QnQ hd;rw[QT,QU,w64 (by omega) (by omega),w64 (by omega) (by omega)];omega
theorem QkN{α:Type}{f:α→Int}:∀{l:List α},Q6 f l=0→∀x∈l,f x=0
 |y::r,h,x,hx=>by
  unfold Q6 at h;split at h
  ·rename_i h0;rcases List.mem_cons.1 hx with rfl|hx
   ·exact h0
   ·exact QkN h x hx
  ·rename_i h0;exact absurd h h0
theorem Qmt{l:List Cv}(h:Qbc l=0){k:Nat}(hk:k<l.length):Qbs (l.take k) (l.getD k (dflt Qe))=0 :=
 QkN h k (List.mem_range.2 hk)
theorem Qzr{l:List Cv}(h:Qbc l=0){c:Cv}(hc:c∈l):QV c=0:=by
 obtain⟨k,hk,e⟩:=List.getElem_of_mem hc;have h1:=Qmt h hk;rw[List.getD_eq_getElem?_getD,List.getElem?_eq_getElem hk,Option.getD_some,e] at h1;unfold Qbs at h1;split at h1
 ·rename_i h2;exact absurd h1 h2
 ·rename_i h2;omega
theorem QrT{c d:Cv}(h:Qbm c d=0):d.1≠c.1:=fun e=>by
 unfold Qbm at h;rw[if_pos (QC.2 e)] at h;cases h
theorem Qd8{l:List Cv}(h:Qbc l=0):l.Pairwise fun c d=>c.1≠d.1:=by
 rw[List.pairwise_iff_getElem];intro i j hi hj hij;have h1:=Qmt h hj;rw[List.getD_eq_getElem?_getD,List.getElem?_eq_getElem hj,Option.getD_some] at h1;unfold Qbs at h1;split at h1
 ·rename_i h2;exact absurd h1 h2
 ·have h3:=QkN h1 l[i] (by
   rw[List.mem_take_iff_getElem]
   exact⟨i,by omega,rfl⟩)
  exact QrT h3
def Qmu(s:ByteArray)(k:Int)(c:Cv):Int:=if Qm c.1 s=true then c.2.1 else k
def QiU(s:ByteArray)(l:List Cv):Int:=l.foldl (Qmu s) (-1)
theorem Qew{s:ByteArray}{l:List Cv}{k:Nat}(h:k<l.length):QiU s (l.take (k+1))=Qmu s (QiU s (l.take k)) (l.getD k (dflt Qe)):=by
 unfold QiU;rw[Qa8 (dflt Qe) h,List.foldl_append];rfl
theorem Qjr{s:ByteArray}:∀{l:List Cv} {a:Int},(∀c∈l,c.1≠s)→l.foldl (Qmu s) a=a
 | [],_,_=>rfl
 |x::r,a,h=>by
  rw[List.foldl_cons,show Qmu s a x=a from if_neg (fun e=>h x (List.mem_cons_self ..) (QC.1 e))];exact Qjr fun c hc=>h c (List.mem_cons_of_mem _ hc)
theorem Qmv{s:ByteArray}:∀{l:List Cv} {a:Int} {k:Nat},l.Pairwise (fun c d=>c.1≠d.1) →
 (QdH (nmB s) l k<0→l.foldl (Qmu s) a=a)∧(0≤QdH (nmB s) l k→l.foldl (Qmu s) a=(l.getD (QdH (nmB s) l k-k).toNat (dflt Qe)).2.1)
 | [],a,k,_=>⟨fun _=>rfl,fun h=>by simp[QdH] at h⟩
 |x::r,a,k,hp=>by
  rw[List.pairwise_cons] at hp;by_cases hx:Qm x.1 s=true
  ·have e:QdH (nmB s) (x::r) k=k:=if_pos hx;rw[e];refine⟨fun h=>by omega,fun _=>?_⟩;rw[List.foldl_cons,show Qmu s a x=x.2.1 from if_pos hx,Qjr (fun c hc ec=>hp.1 c hc ((QC.1 hx).trans ec.symm)),show((k:Int)-k).toNat=0 by omega];rfl
  ·have e:QdH (nmB s) (x::r) k=QdH (nmB s) r (k+1):=if_neg hx;obtain⟨h1,h2⟩:=Qmv (s:=s) (l:=r) (a:=a) (k:=k+1) hp.2;rw[e,List.foldl_cons,show Qmu s a x=a from if_neg hx];refine⟨h1,fun h=>?_⟩;rw[h2 h];have hin:=Qkt (p:=nmB s) (l:=r) (k:=k+1);rw[show(QdH (nmB s) r (k+1)-(k:Int)).toNat=(QdH (nmB s) r (k+1)-((k+1:Nat):Int)).toNat+1 by omega];rfl
theorem QkO{s:ByteArray}{l:List Cv}(hp:l.Pairwise fun c d=>c.1≠d.1):QiU s l=if QbP (nmB s) l<0 then -1 else (l.getD (QbP (nmB s) l).toNat (dflt Qe)).2.1:=by
 obtain⟨h1,h2⟩:=Qmv (s:=s) (a:=-1) (k:=0) hp;unfold QiU QbP;split
 ·rename_i h;exact h1 h
 ·rename_i h;rw[h2 (by omega)];simp
theorem QfT{s:ByteArray}{l:List Cv}(h:Qbc l=0):QiU s l<0↔QbP (nmB s) l<0:=by
 rw[QkO (Qd8 h)];have hin:=Qku (nmB s) l;split
 ·rename_i h1;exact⟨fun _=>h1,fun _=>by decide⟩
 ·rename_i h1;have:=(QnQ (Qzr h (QG (dflt Qe) (show(QbP (nmB s) l).toNat<l.length by omega)))).1;omega
theorem Qmw{a b:ByteArray}(h:a.data.toList=b.data.toList):a=b:=by
 cases a;cases b;simp only[ByteArray.mk.injEq];exact Array.ext' h
theorem Qmx:∀{l:List UInt8},0≤Lib.indexByte l 46→l=l.take (Lib.indexByte l 46).toNat++46::l.drop ((Lib.indexByte l 46).toNat+1)
 | [],h=>by simp[Lib.indexByte] at h
 |x::r,h=>by
  unfold Lib.indexByte at h ⊢;by_cases hx:(x==46)=true
  ·rw[if_pos hx];have:x=46:=by simpa using hx
   subst this;rfl
  ·rw[if_neg hx] at h ⊢;by_cases h2:(Lib.indexByte r 46 == -1)=true
   ·rw[if_pos h2] at h;simp at h
   ·rw[if_neg h2] at h ⊢;have hin:=Qin 46 r;have h3:Lib.indexByte r 46≠-1:=fun e=>h2 (beq_iff_eq.2 e)
    have ih:=Qmx (l:=r) (by omega);rw[show(Lib.indexByte r 46+1).toNat=(Lib.indexByte r 46).toNat+1 by omega];simpa using ih
theorem QA4(s:ByteArray):Qm s (QdJ s++Qg3)=Qm (cutA s) Qzp:=by
 rw[Bool.eq_iff_iff,QC,QC];by_cases hd:0≤QbS s
 ·have e:=Qmx (l:=s.data.toList) hd
  have h1:(QdJ s).data.toList=s.data.toList.take (QbS s).toNat:=by
   unfold QdJ;rw[if_pos hd,ByteArray.data_extract];simp
  have hin:=Qio hd;have hsz:s.data.toList.length=s.size:=Array.length_toList
  have h2:(cutA s).data.toList=s.data.toList.drop ((QbS s).toNat+1):=by
   unfold cutA;rw[if_pos hd,ByteArray.data_extract,show(QbS s+1).toNat=(QbS s).toNat+1 by omega];rw[Array.toList_extract,List.extract_eq_take_drop];rw[List.take_of_length_le (by rw[List.length_drop];omega)]
  have h3:(QdJ s++Qg3).data.toList=s.data.toList.take (QbS s).toNat++[46,105,114,113]:=by
   rw[ByteArray.data_append,Array.toList_append,h1];rfl
  constructor
  ·intro h;apply Qmw;rw[h2];have h4:s.data.toList=(QdJ s++Qg3).data.toList:=congrArg (fun x:ByteArray=>x.data.toList) h;rw[h3] at h4;have h5:=e.symm.trans h4;have h6:=List.append_cancel_left h5;injection h6
  ·intro h;apply Qmw;rw[h3];have h4:(cutA s).data.toList=Qzp.data.toList:=congrArg (fun x:ByteArray=>x.data.toList) h;rw[h2] at h4;have h5:s.data.toList.drop ((QbS s).toNat+1)=[105,114,113]:=h4;refine e.trans ?_;show s.data.toList.take (QbS s).toNat++46::s.data.toList.drop ((QbS s).toNat+1)=_;rw[h5]
 ·have e1:QdJ s=s:=if_neg hd;have e2:cutA s=⟨#[]⟩:=if_neg hd;rw[e1,e2];constructor
  ·intro h;have h4:=congrArg ByteArray.size h;rw[ByteArray.size_append] at h4;have:Qg3.size=4:=rfl;omega
  ·intro h;exact absurd (congrArg ByteArray.size h) (by decide)
theorem Qzs{l:List (Den Qr×Den .bool)}{k k':Den Qr}{v:Den .bool}:Qag (Qaq l k v) k'=if QA Qr k' k=true then some v else Qag l k':=by
 have hs:∀{a b:Den Qr},QA Qr a b=true↔a=b:=Qvj
 induction l with
 |nil =>
  show(match QA Qr k' k with|true=>some v|false=>none)=_;cases QA Qr k' k<;>rfl
 |cons p r ih =>
  obtain⟨pk,pv⟩:=p;by_cases h:QA Qr k pk=true
  ·have e:Qaq ((pk,pv)::r) k v=(k,v)::r:=by
    show(match QA Qr k pk with|true=>(k,v)::r|false=>(pk,pv)::Qaq r k v)=_;rw[h]
   rw[e];have hk:=hs.1 h;subst hk;show(match QA Qr k' k with|true=>some v|false=>Qag r k')=if QA Qr k' k=true then some v else (match QA Qr k' k with|true=>some pv|false=>Qag r k')
   cases QA Qr k' k<;>rfl
  ·have h0:QA Qr k pk=false:=by simpa using h
   have e:Qaq ((pk,pv)::r) k v=(pk,pv)::Qaq r k v:=by
    show(match QA Qr k pk with|true=>(k,v)::r|false=>(pk,pv)::Qaq r k v)=_;rw[h0]
   rw[e];show(match QA Qr k' pk with|true=>some pv|false=>Qag (Qaq r k v) k')=if QA Qr k' k=true then some v else (match QA Qr k' pk with|true=>some pv|false=>Qag r k')
   rw[ih];by_cases h1:QA Qr k' pk=true
   ·have h2:¬QA Qr k' k=true:=fun h3=>h (by rw[←hs.1 h3];exact h1)
    rw[h1];show some pv=if QA Qr k' k=true then some v else some pv
    rw[if_neg h2]
   ·have h1':QA Qr k' pk=false:=by simpa using h1
    rw[h1']
def QDu(M:List (Den Qr×Den .bool))(l:List Wr):Prop:=∀x:Wr,QgK (Qag M x) false=l.any (QcT x)
theorem Qmy{M:List (Den Qr×Den .bool)}{l:List Wr}{k:Nat}{y:Wr}(h:QDu M (l.take k))(hk:k<l.length)(e:l.getD k (dflt Qr)=y):QDu (Qaq M y true) (l.take (k+1)):=by
 intro x;rw[Qzs,Qa8 (dflt Qr) hk,e,List.any_append];by_cases hc:QcT x y=true
 ·rw[if_pos (show QA Qr x y=true from hc)];show true=_;simp[hc]
 ·rw[if_neg (show¬QA Qr x y=true from hc),h x];have hc':QcT x y=false:=by simpa using hc
  simp[hc']
def QD9(b:Bd):Prop:=bdP b∧∀w∈b.2.2.2,w.1.size≤140737488351232
theorem QdC{l:List Cv}{k:Nat}{e:Int}(hk:k<l.length)(hi:Q6 (fun k=>Qbs (l.take k) (l.getD k (dflt Qe))) ((List.range l.length).drop k)=Qbc l) :
 (Qbs (l.take k) (l.getD k (dflt Qe))≠0→Qbs (l.take k) (l.getD k (dflt Qe))=Qbc l)∧(Qbs (l.take k) (l.getD k (dflt Qe))=0→Q6 (fun k=>Qbs (l.take k) (l.getD k (dflt Qe))) ((List.range l.length).drop (k+1))=Qbc l):=by
 have hr:k<(List.range l.length).length:=by rw[List.length_range];exact hk
 have e1:=Qcx hk;constructor
 ·intro h;rw[←hi,QaH 0 hr (by rw[e1];exact h),e1]
 ·intro h;rw[←hi,Qa1 0 hr (by rw[e1];exact h)]
theorem Qiq{b:Bd}{k:Nat}(hk:k<b.2.2.2.length)(hi:Q6 (Qa2 b) ((List.range b.2.2.2.length).drop k)=Q6 (Qa2 b) (List.range b.2.2.2.length)) :
 (Qa2 b k≠0→Qa2 b k=Q6 (Qa2 b) (List.range b.2.2.2.length))∧(Qa2 b k=0→Q6 (Qa2 b) ((List.range b.2.2.2.length).drop (k+1))=Q6 (Qa2 b) (List.range b.2.2.2.length)):=by
 have hr:k<(List.range b.2.2.2.length).length:=by rw[List.length_range];exact hk
 have e1:=Qcx hk;constructor
 ·intro h;rw[←hi,QaH 0 hr (by rw[e1];exact h),e1]
 ·intro h;rw[←hi,Qa1 0 hr (by rw[e1];exact h)]
def QkP:PSpec:=⟨[gBd],fun(b,_)=>(some (QD9 b),I (Qak b),[])⟩
theorem QvZ:G0 53 QkP.spec:=by
 have hP:S0 _:=Qa QfI (Qa QvY (Qa Ql8 (Qa Qzq (Qa Qvk (Qb (T:=tree))))));have hT:=tabs hP Qc;refine QkP.gd hT hP Tryz.func53 fun(b:Bd) hq=>?_
 obtain⟨⟨⟨hl1,hl2⟩,hcp⟩,hwp⟩:QD9 b:=hq _ rfl;clear hq;obtain⟨bn,⟨un,ui,ur,uq,um⟩,bc,bw⟩:=b;have hl1:bc.length*64≤140737488351232:=hl1;have hl2:bw.length*32≤140737488351232:=hl2;have hcp:∀c∈bc,cP c∧c.1.size≤140737488351232:=hcp;have hwp:∀w∈bw,w.1.size≤140737488351232:=hwp;obtain⟨B,hB⟩:∃B:Bd,B=(bn,(un,ui,ur,uq,um),bc,bw):=⟨_,rfl⟩
 have hBE:Qak (bn,(un,ui,ur,uq,um),bc,bw)=if QaF (bytesOf bn)=false then 15 else if QdP (un,ui,ur,uq,um)≠0 then QdP (un,ui,ur,uq,um) else if bc.length>12 then 2 else if Qbc bc≠0 then Qbc bc
  else if bw.length>40 then 2 else Q6 (Qa2 (bn,(un,ui,ur,uq,um),bc,bw)) (List.range bw.length):=rfl
 repeat' first|(apply Ea;conv=>whnf)|apply Eb|apply Ec<;>intro _|apply Ed<;>intro _|apply Ee<;>intro _|apply Ef hT hP
 all_goals(try dsimp only[Qf] at *)
 ·rename_i g;have g:QaF (bytesOf bn)=false:=by simpa using g
  refine .k [] [] _ rfl (Qd ?_);rw[hBE,if_pos g]
 ·rename_i g g2;have g:QaF (bytesOf bn)=true:=by simpa using g
  have g2:=QbM (x:=QdP (un,ui,ur,uq,um)) g2;refine .k [] [] _ rfl (Qd ?_);rw[hBE,if_neg (by rw[g];decide),if_pos g2]
 ·rename_i g g2 g3;have g:QaF (bytesOf bn)=true:=by simpa using g
  have g2:=Qap (x:=QdP (un,ui,ur,uq,um)) g2;have g3:(bc.length:Int)>12:=g3;refine .k [] [] _ rfl (Qd ?_);rw[hBE,if_neg (by rw[g];decide),if_neg (fun h=>h g2),if_pos (by omega)]
 rename_i g g2 g3;have g:QaF (bytesOf bn)=true:=by simpa using g
 have g2:=Qap (x:=QdP (un,ui,ur,uq,um)) g2;have g3:¬(bc.length:Int)>12:=g3;rw[if_neg (by rw[g];decide),if_neg (fun h=>h g2),if_neg (by omega)] at hBE
 refine QH hT hP (A:=Unit) bc.length (fun i _=>St.mk (E1 ((.cell (.ptr 0 0))::E20 (E5 ((.cell (.ro Qe bc))::(I bc.length)::(I i)::E40 (E20 (E10 []))))))
  [some (.var [.imm (.string bn),.imm (.string un),.ro QaA ui,.ro Qs ur,.ro Qs uq,.ro Qs um,.ro Qe bc,.ro Qr bw])])
  (fun k _=>Q6 (fun k=>Qbs (bc.take k) (bc.getD k (dflt Qe))) ((List.range bc.length).drop k)=Qbc bc) () (Le.k [] [0] ?_) rfl fun k _ hk hi=>?_
 ·repeat' constructor
 have hcb:∀e:Int,Qbc bc=e→e≠0→e=Qak (bn,(un,ui,ur,uq,um),bc,bw):=fun e h1 h2=>by
  rw[hBE,if_pos (by rw[h1];exact h2),h1]
 repeat' first|(apply Ea;conv=>whnf)|apply Eb|apply Ec<;>intro _|apply Ed<;>intro _|apply Ee<;>intro _|apply Ef hT hP
 all_goals(try dsimp only[Qf] at *)
 ·show 0≤(k:Int)∧(k:Int)<(bc.length:Int);omega
 ·rename_i g4;have g4:(k:Int)<(bc.length:Int):=g4;exact(hcp _ (QG (dflt Qe) (show k<bc.length by omega))).1
 ·rename_i g4 g5;have g4:(k:Int)<(bc.length:Int):=g4;have g5:(QV (bc.getD k (dflt Qe)) != 0)=true:=g5;have hs:=(QdC (e:=0) (show k<bc.length by omega) hi).1;have e:Qbs (bc.take k) (bc.getD k (dflt Qe))=QV (bc.getD k (dflt Qe)):=if_pos (QbM g5);rw[e] at hs;exact .k [] [] _ rfl (Qd (hcb _ (hs (QbM g5)).symm (QbM g5)))
 ·show 0≤(k:Int)∧(k:Int)≤(bc.length:Int);omega
 ·rename_i g4 g5;have g4:(k:Int)<(bc.length:Int):=g4;have g5:(QV (bc.getD k (dflt Qe)) != 0)=false:=g5;have hs:=QdC (e:=0) (show k<bc.length by omega) hi;have e:Qbs (bc.take k) (bc.getD k (dflt Qe))=Q6 (Qbm (bc.getD k (dflt Qe))) (bc.take k):=if_neg (fun h=>h (Qap g5));rw[e] at hs;have hx:bc.getD (k:Int).toNat (dflt Qe)=bc.getD k (dflt Qe):=rfl;have htl:(bc.take k).length=k:=by rw[List.length_take];omega
  have hts:((bc.take (k:Int).toNat).drop 0)=bc.take k:=rfl;rw[hts,hx];generalize bc.getD k (dflt Qe)=x at *;obtain⟨xn,xk,xb,xs,xd⟩:=x;generalize bc.take k=pre at *
  refine QH hT hP (A:=Unit) pre.length (fun j _=>St.mk (E1 ((.cell (.ptr 0 0))::E3 ((.cell (.ptr 1 0))::E20 (E1 ((.cell (.ro Qe bc))::(I bc.length)::(I k)::E10 (E2 ((.cell (.ro Qe pre))::(I pre.length)::(I j)::E40 (E10 (E5 [])))))))))
   [some (.var [.imm (.string bn),.imm (.string un),.ro QaA ui,.ro Qs ur,.ro Qs uq,.ro Qs um,.ro Qe bc,.ro Qr bw]),some (.var [.imm (.string xn),iv .i64 xk,iv .i64 xb,iv .i64 xs,.ro (.int .u8) xd])])
   (fun j _=>Q6 (Qbm (xn,xk,xb,xs,xd)) (pre.drop j)=Q6 (Qbm (xn,xk,xb,xs,xd)) pre) () (Le.k [] [0,1] ?_) rfl fun j _ hj hi2=>?_
  ·repeat' constructor
  repeat' first|(apply Ea;conv=>whnf)|apply Eb|apply Ec<;>intro _|apply Ed<;>intro _|apply Ee<;>intro _|apply Ef hT hP
  all_goals(try dsimp only[Qf] at *)
  all_goals clear hT hP
  all_goals(generalize hy:pre.getD (j:Int).toNat (dflt Qe)=y at *;obtain⟨yn,yk,yb,ys,yd⟩:=y)
  all_goals(replace hy:pre.getD j (dflt Qe)=(yn,yk,yb,ys,yd):=hy)
  all_goals(have hok:Qbm (xn,xk,xb,xs,xd) (yn,yk,yb,ys,yd)=0→(j:Int)<(pre.length:Int)→Q6 (Qbm (xn,xk,xb,xs,xd)) (pre.drop (j+1))=Q6 (Qbm (xn,xk,xb,xs,xd)) pre:=fun h0 h1=>(Qa1 (f:=Qbm (xn,xk,xb,xs,xd)) (dflt Qe) (show j<pre.length by omega) (by rw[hy,h0])).symm.trans hi2)
  ·show 0≤(j:Int)∧(j:Int)<(pre.length:Int);omega
  ·rename_i g6 g7;have g6:(j:Int)<(pre.length:Int):=g6;have g7:Qm yn xn=true:=g7;have e5:Qbm (xn,xk,xb,xs,xd) (yn,yk,yb,ys,yd)=5:=if_pos g7;have e6:=QaH (f:=Qbm (xn,xk,xb,xs,xd)) (dflt Qe) (show j<pre.length by omega) (by rw[hy,e5];decide);rw[hy,e5,hi2] at e6;rw[e6] at hs;exact .k [] [] _ rfl (Qd (hcb _ (hs.1 (by decide)).symm (by decide)))
  ·rename_i g6 g7 g8 g9;have g6:(j:Int)<(pre.length:Int):=g6;have g7:Qm yn xn=false:=g7
   have e5:Qbm (xn,xk,xb,xs,xd) (yn,yk,yb,ys,yd)=16:=by
    unfold Qbm;rw[if_neg (by rw[show Qm yn xn=false from g7];decide),if_pos ⟨g8,g9⟩]
   have e6:=QaH (f:=Qbm (xn,xk,xb,xs,xd)) (dflt Qe) (show j<pre.length by omega) (by rw[hy,e5];decide);rw[hy,e5,hi2] at e6;rw[e6] at hs;exact .k [] [] _ rfl (Qd (hcb _ (hs.1 (by decide)).symm (by decide)))
  ·rename_i g6 g7 g8 g9;have g6:(j:Int)<(pre.length:Int):=g6;apply Ex () [] [0,1]
   ·repeat' constructor
   ·omega
   ·exact QL (by omega)
   refine hok ?_ g6;unfold Qbm;rw[if_neg (by rw[show Qm yn xn=false from g7];decide),if_neg (fun h=>g9 h.2)]
  ·rename_i g6 g7 g8;have g6:(j:Int)<(pre.length:Int):=g6;apply Ex () [] [0,1]
   ·repeat' constructor
   ·omega
   ·exact QL (by omega)
   refine hok ?_ g6;unfold Qbm;rw[if_neg (by rw[show Qm yn xn=false from g7];decide),if_neg (fun h=>g8 h.1)]
  ·rename_i g6;have g6:¬(j:Int)<(pre.length:Int):=g6
   have e0:Q6 (Qbm (xn,xk,xb,xs,xd)) pre=0:=by
    rw[←hi2,List.drop_of_length_le (by omega)];rfl
   apply Ex () [] [0]
   ·repeat' constructor
   ·omega
   ·exact QL (by omega)
   exact hs.2 e0
 ·rename_i g4 g5;have g4:¬(k:Int)<(bc.length:Int):=g4;have g5:(bw.length:Int)>40:=g5
  have h0:Qbc bc=0:=by
   rw[←hi,List.drop_of_length_le (by rw[List.length_range];omega)];rfl
  refine .k [] [] _ rfl (Qd ?_);rw[hBE,if_neg (fun h=>h h0),if_pos (by omega)]
 rename_i g4 g5;have g4:¬(k:Int)<(bc.length:Int):=g4;have g5:¬(bw.length:Int)>40:=g5
 have h0:Qbc bc=0:=by
  rw[←hi,List.drop_of_length_le (by rw[List.length_range];omega)];rfl
 rw[if_neg (fun h=>h h0),if_neg (by omega)] at hBE;clear hi hcb
 refine QH hT hP (A:=Unit) bw.length (fun i _=>St.mk (E1 ((.cell (.ptr 0 0))::E40 (E20 (E10 (E5 (E3 ((.cell (.ro Qr bw))::(I bw.length)::(I i)::E10 (E5 (E2 [])))))))))
  [some (.var [.imm (.string bn),.imm (.string un),.ro QaA ui,.ro Qs ur,.ro Qs uq,.ro Qs um,.ro Qe bc,.ro Qr bw])])
  (fun k _=>Q6 (Qa2 (bn,(un,ui,ur,uq,um),bc,bw)) ((List.range bw.length).drop k)=Q6 (Qa2 (bn,(un,ui,ur,uq,um),bc,bw)) (List.range bw.length)) () (Le.k [] [0] ?_) rfl fun q _ hq hj=>?_
 ·repeat' constructor
 repeat' first|(apply Ea;conv=>whnf)|apply Eb|apply Ec<;>intro _|apply Ed<;>intro _|apply Ee<;>intro _|apply Ef hT hP
 all_goals(try dsimp only[Qf] at *)
 all_goals clear hT hP
 all_goals(generalize hw:bw.getD (q:Int).toNat (dflt Qr)=w at *;obtain⟨wf,wt⟩:=w)
 all_goals(replace hw:bw.getD q (dflt Qr)=(wf,wt):=hw)
 all_goals(have hA:Qa2 (bn,(un,ui,ur,uq,um),bc,bw) q=if Qbl (bn,(un,ui,ur,uq,um),bc,bw) (bw.getD q (dflt Qr))≠0 then Qbl (bn,(un,ui,ur,uq,um),bc,bw) (bw.getD q (dflt Qr)) else if (bw.take q).any (QcT (bw.getD q (dflt Qr)))=true then 5 else 0:=rfl)
 all_goals(rw[hw] at hA)
 all_goals(have hs:=fun h=>Qiq (b:=(bn,(un,ui,ur,uq,um),bc,bw)) (k:=q) h hj)
 all_goals(rw[hA] at hs)
 ·show 0≤(q:Int)∧(q:Int)<(bw.length:Int);omega
 ·rename_i g6;have g6:(q:Int)<(bw.length:Int):=g6;have:=hwp _ (QG (dflt Qr) (show q<bw.length by omega));rw[hw] at this;exact⟨by omega,this⟩
 ·rename_i g6 g7;have g6:(q:Int)<(bw.length:Int):=g6;have g7:=QbM (x:=Qbl (bn,(un,ui,ur,uq,um),bc,bw) (wf,wt)) g7;have hs:=hs (by show q<bw.length;omega);rw[if_pos g7] at hs;refine .k [] [] _ rfl (Qd ?_);rw[hBE,←hs.1 g7]
 ·show 0≤(q:Int)∧(q:Int)≤(bw.length:Int);omega
 ·show((bw.take (q:Int).toNat).drop 0).length≤4611686018427387904;rw[List.drop_zero,List.length_take];omega
 ·rename_i g6 g7 g8;have g6:(q:Int)<(bw.length:Int):=g6;have g7:=Qap (x:=Qbl (bn,(un,ui,ur,uq,um),bc,bw) (wf,wt)) g7;have g8:(bw.take q).any (QcT (wf,wt))=true:=g8;have hs:=hs (by show q<bw.length;omega);rw[if_neg (fun h=>h g7),if_pos g8] at hs;refine .k [] [] _ rfl (Qd ?_);rw[hBE,←hs.1 (by decide)]
 ·rename_i g6 g7 g8;have g6:(q:Int)<(bw.length:Int):=g6;have g7:=Qap (x:=Qbl (bn,(un,ui,ur,uq,um),bc,bw) (wf,wt)) g7;have g8:(bw.take q).any (QcT (wf,wt))=false:=g8;have hs:=hs (by show q<bw.length;omega);rw[if_neg (fun h=>h g7),if_neg (by rw[g8];decide)] at hs;apply Ex () [] [0]
  ·repeat' constructor
  ·omega
  ·exact QL (by omega)
  exact hs.2 rfl
 ·rename_i g6;have g6:¬(q:Int)<(bw.length:Int):=g6;refine .k [] [] _ rfl (Qd ?_);rw[hBE,←hj,List.drop_of_length_le (by rw[List.length_range];omega)];rfl
abbrev QfU:Ty:=.pair .str (.int .i64)
theorem QrU{l:List (Den QfU×Den .bool)}{k k':Den QfU}{v:Den .bool}:Qag (Qaq l k v) k'=if QA QfU k' k=true then some v else Qag l k':=by
 have hs:∀{a b:Den QfU},QA QfU a b=true↔a=b:=fun{a b}=>⟨fun h=>Qdp rfl h,fun h=>by rw[h];exact Qdf rfl⟩
 induction l with
 |nil =>
  show(match QA QfU k' k with|true=>some v|false=>none)=_;cases QA QfU k' k<;>rfl
 |cons p r ih =>
  obtain⟨pk,pv⟩:=p;by_cases h:QA QfU k pk=true
  ·have e:Qaq ((pk,pv)::r) k v=(k,v)::r:=by
    show(match QA QfU k pk with|true=>(k,v)::r|false=>(pk,pv)::Qaq r k v)=_;rw[h]
   rw[e];have hk:=hs.1 h;subst hk;show(match QA QfU k' k with|true=>some v|false=>Qag r k')=if QA QfU k' k=true then some v else (match QA QfU k' k with|true=>some pv|false=>Qag r k')
   cases QA QfU k' k<;>rfl
  ·have h0:QA QfU k pk=false:=by simpa using h
   have e:Qaq ((pk,pv)::r) k v=(pk,pv)::Qaq r k v:=by
    show(match QA QfU k pk with|true=>(k,v)::r|false=>(pk,pv)::Qaq r k v)=_;rw[h0]
   rw[e];show(match QA QfU k' pk with|true=>some pv|false=>Qag (Qaq r k v) k')=if QA QfU k' k=true then some v else (match QA QfU k' pk with|true=>some pv|false=>Qag r k')
   rw[ih];by_cases h1:QA QfU k' pk=true
   ·have h2:¬QA QfU k' k=true:=fun h3=>h (by rw[←hs.1 h3];exact h1)
    rw[h1];show some pv=if QA QfU k' k=true then some v else some pv
    rw[if_neg h2]
   ·have h1':QA QfU k' pk=false:=by simpa using h1
    rw[h1']
theorem QL1(x:Int):(x != land .i64 x 255)=decide (x<0∨x>255):=by
 have e2:QmN x 8=land .i64 x 255:=by unfold QmN;rw[show i64.wrap (shl .i64 1 (QaD 8)-1)=255 by decide]
 have e:land .i64 x 255=x%256:=by rw[←e2,Qj1 x 8 (by decide) (by decide)];rfl
 rw[e];rw[Bool.eq_iff_iff];simp;omega
def Qv0(M:List (Den QfU×Den .bool))(l:List Ins):Prop:=∀x:Ins,QgK (Qag M (x.2.1,x.2.2.1)) false=l.any (QiR x)
theorem Qv1{x y:Ins}:QiR x y=true↔(x.2.1,x.2.2.1)=(y.2.1,y.2.2.1):=by
 unfold QiR;have hs:Qm y.2.1 x.2.1=true↔y.2.1=x.2.1:=Lib.bytes_beq_iff _ _;rw[Prod.mk.injEq];cases h:Qm y.2.1 x.2.1 with
 |true =>
  show decide (y.2.2.1=x.2.2.1)=true↔_;rw[decide_eq_true_eq];have:=hs.1 h;exact⟨fun h2=>⟨this.symm,h2.symm⟩,fun h2=>h2.2.symm⟩
 |false =>
  show false=true↔_;exact⟨fun h2=>(by cases h2),fun h2=>(by have:=hs.2 h2.1.symm;rw[h] at this;cases this)⟩
theorem Qqa{M:List (Den QfU×Den .bool)}{l:List Ins}{k:Nat}{y:Ins}(h:Qv0 M (l.take k))(hk:k<l.length)(e:l.getD k (dflt QaA)=y):Qv0 (Qaq M (y.2.1,y.2.2.1) true) (l.take (k+1)):=by
 intro x;rw[QrU,Qa8 (dflt QaA) hk,e,List.any_append];have hd:QA QfU (x.2.1,x.2.2.1) (y.2.1,y.2.2.1)=true↔(x.2.1,x.2.2.1)=(y.2.1,y.2.2.1):=⟨fun h=>Qdp rfl h,fun h=>by rw[h];exact Qdf rfl⟩
 by_cases hc:QiR x y=true
 ·rw[if_pos (hd.2 (Qv1.1 hc))];show true=_;simp[hc]
 ·rw[if_neg (fun h2=>hc (Qv1.2 (hd.1 h2))),h x];have hc':QiR x y=false:=by simpa using hc
  simp[hc']
theorem QnR:G0 62 QkM.spec:=by
 have hP:S0 _:=Qa Qh5 (Qa QnD (Qa QrQ (Qb (T:=tree))));have hT:=tabs hP Qc;refine QkM.gd hT hP Tryz.func62 fun(c:Cpu) _=>?_
 obtain⟨cn,ci,cr,cq,cm⟩:=c
 repeat' first|(apply Ea;conv=>whnf)|apply Eb|apply Ec<;>intro _|apply Ed<;>intro _|apply Ee<;>intro _|apply Ef hT hP
 all_goals(try dsimp only[Qf] at *)
 ·rename_i g;have g:QaF (bytesOf cn)=false:=by simpa using g
  refine .k [] [] _ rfl (Qd ?_);exact(if_pos g:QdP (cn,ci,cr,cq,cm)=15).symm
 ·rename_i g g2;have g:QaF (bytesOf cn)=true:=by simpa using g
  have g2:(ci.length:Int)>256:=g2;refine .k [] [] _ rfl (Qd ?_);show 2=QdP (cn,ci,cr,cq,cm);unfold QdP;rw[if_neg (by rw[g];decide),if_pos (by show ci.length>256;omega)]
 rename_i g1 g2;have g1:QaF (bytesOf cn)=true:=by simpa using g1
 have hn:ci.length≤256:=by have g2:¬(ci.length:Int)>256:=g2;omega
 clear g2
 have hC:∀e:Int,e≠0→Qip ci=e→e=QdP (cn,ci,cr,cq,cm):=fun e h0 h1=>by
  unfold QdP;rw[if_neg (by rw[g1];decide),if_neg (by show¬ci.length>256;omega),if_pos (by rw[h1];exact h0)];exact h1.symm
 have hT2:Qip ci=0→QiT (cn,ci,cr,cq,cm)=QdP (cn,ci,cr,cq,cm):=fun h1=>by
  unfold QdP;rw[if_neg (by rw[g1];decide),if_neg (by show¬ci.length>256;omega),if_neg (by rw[h1];decide)]
 refine QH hT hP (A:=Int×List (Den QfU×Den .bool)) ci.length (fun i (a,M)=>St.mk (E1 ((.cell (.ptr 0 0))::E1 ((I a)::(.cell (.map 1))::E10 (E5 (E3 ((.cell (.ro QaA ci))::(I ci.length)::(I i)::E40 (E40 (E5 (E2 [])))))))))
  [some (.var [.imm (.string cn),.ro QaA ci,.ro Qs cr,.ro Qs cq,.ro Qs cm]),some (.mp true QfU .bool M)])
  (fun k (a,M)=>Q6 (QrS ci) ((List.range ci.length).drop k)=Qip ci∧Qv0 M (ci.take k)∧(0<k→a=(ci.getD (k-1) (dflt QaA)).1)) (-1,[]) (Le.k [] [0,1] ?_) ⟨rfl,fun _=>rfl,fun h=>absurd h (Nat.lt_irrefl _)⟩ fun k (a,M) hk hi=>?_
 ·repeat' constructor
 obtain⟨hi,hM,ha⟩:=hi
 have hE:∀e:Int,e≠0→QrS ci k=e→k<ci.length→e=QdP (cn,ci,cr,cq,cm):=fun e h0 h1 hk=>by
  refine hC e h0 ?_;have hr:k<(List.range ci.length).length:=by rw[List.length_range];exact hk
  have e1:=Qcx hk;rw[←hi,QaH 0 hr (by rw[e1,h1];exact h0),e1,h1]
 have hN:QrS ci k=0→k<ci.length→Q6 (QrS ci) ((List.range ci.length).drop (k+1))=Qip ci:=fun h1 hk=>by
  have hr:k<(List.range ci.length).length:=by rw[List.length_range];exact hk
  rw[←hi,Qa1 0 hr (by rw[Qcx hk,h1])]
 repeat' first|(apply Ea;conv=>whnf)|apply Eb|apply Ec<;>intro _|apply Ed<;>intro _|apply Ee<;>intro _|apply Ef hT hP
 all_goals(try dsimp only[Qf] at *)
 all_goals(generalize hx:ci.getD (k:Int).toNat (dflt QaA)=x at *;obtain⟨xo,xs,xm,xc⟩:=x)
 all_goals(have hx':ci.getD k (dflt QaA)=(xo,xs,xm,xc):=hx)
 all_goals(have hI:QrS ci k=QvX (ci.take k) k (ci.getD (k-1) (dflt QaA)).1 (xo,xs,xm,xc):=by unfold QrS;rw[hx'])
 all_goals(rw[hI] at hE hN)
 all_goals(generalize(ci.getD (k-1) (dflt QaA)).1=pv at *)
 all_goals(try dsimp only at *)
 all_goals(have hL:QgK (Qag M (xs,xm)) (dflt .bool)=(ci.take k).any (QiR (xo,xs,xm,xc)):=hM (xo,xs,xm,xc))
 all_goals(try simp only[hL] at *)
 all_goals(try simp only[QL1,decide_eq_false_iff_not,decide_eq_true_eq] at *)
 ·show 0≤(k:Int)∧(k:Int)<(ci.length:Int);omega
 all_goals first
  |exact .k [] [] _ rfl (Qd (hE _ (QbM (x:=Qy xc) (by assumption)) (Qp9 (fun h=>by omega) (fun h=>by omega) (fun h=>by omega) (by assumption) (by assumption) (by assumption) (by assumption)) (by omega)))
  |(refine .k [] [] _ rfl (Qd (hE _ ?_ ?_ (by omega)))
    ·decide
    ·clear hT hP hE hN hC hT2 hi hx hx' hI hM;simp[QvX] at *
     try first
      |omega
      |(simp_all;done)
      |(simp_all;omega))
  |skip
 ·have hk2:k<ci.length:=by omega
  have hx5:xc.length≤1000:=by
   have h0:(Qy xc != 0)=false:=by assumption
   have h1:=Qap h0;unfold Qy at h1;split at h1
   ·cases h1
   ·omega
  have hno:¬(xo<0∨xo>255):=by assumption
  refine QH hT hP (A:=Int) xc.length (fun j n=>St.mk (E1 ((.cell (.ptr 0 0))::E1 ((I xo)::(.cell (.map 1))::E1 ((.cell (.ptr 2 0))::E2 ((I n)::E10 (E3 ((.cell (.ro QaA ci))::(I ci.length)::(I k)::E40 (E10 ((.cell (.ro Qs xc))::(I xc.length)::(I j)::E20 (E10 (E3 (E1 []))))))))))))
   [some (.var [.imm (.string cn),.ro QaA ci,.ro Qs cr,.ro Qs cq,.ro Qs cm]),some (.mp true QfU .bool (Qaq M (xs,xm) true)),some (.var [.imm (.int .i64 xo),.imm (.string xs),.imm (.int .i64 xm),.ro Qs xc])])
   (fun j n=>n=(((xc.take j).filter Qe6).length:Nat)) 0 (Le.k [] [0,1,2] ?_) rfl fun j n hj hi2=>?_
  ·repeat' constructor
  repeat' first|(apply Ea;conv=>whnf)|apply Eb|apply Ec<;>intro _|apply Ed<;>intro _|apply Ee<;>intro _|apply Ef hT hP
  all_goals clear hT hP
  all_goals have hf:=List.length_filter_le Qe6 (xc.take j)
  all_goals rw[List.length_take] at hf
  ·show 0≤(j:Int)∧(j:Int)<(xc.length:Int);omega
  ·rename_i g g1 g2;have g:(j:Int)<(xc.length:Int):=g
   have h2:Qe6 (xc.getD j (dflt Qs))=true:=by
    have g1:(xc.getD j (dflt Qs)).1=1:=g1;have g2:(xc.getD j (dflt Qs)).2.1=0:=g2;unfold Qe6;rw[decide_eq_true g1,decide_eq_true g2];rfl
   apply Ex _ [] [0,1,2]
   ·repeat' constructor
   ·omega
   ·exact QL (by omega)
   have e:i64.wrap (n+1)=n+1:=w64 (by omega) (by omega);have e2:=QkK (show j<xc.length by omega) h2;rw[e];omega
  ·rename_i g g1 g2;have g:(j:Int)<(xc.length:Int):=g
   have h2:Qe6 (xc.getD j (dflt Qs))=false:=by
    have g1:(xc.getD j (dflt Qs)).1=1:=g1;have g2:¬(xc.getD j (dflt Qs)).2.1=0:=g2;unfold Qe6;rw[decide_eq_true g1,decide_eq_false g2];rfl
   apply Ex _ [] [0,1,2]
   ·repeat' constructor
   ·omega
   ·exact QL (by omega)
   have e2:=Qgr (show j<xc.length by omega) h2;omega
  ·rename_i g g1;have g:(j:Int)<(xc.length:Int):=g
   have h2:Qe6 (xc.getD j (dflt Qs))=false:=by
    have g1:¬(xc.getD j (dflt Qs)).1=1:=g1;unfold Qe6;rw[decide_eq_false g1];rfl
   apply Ex _ [] [0,1,2]
   ·repeat' constructor
   ·omega
   ·exact QL (by omega)
   have e2:=Qgr (show j<xc.length by omega) h2;omega
  ·rename_i g g1;have e:n=QiS xc:=by rw[hi2,List.take_of_length_le (by omega)];rfl
   have g1:(n != QcS xm)=true:=g1;rw[e] at g1;exact .k [] [] _ rfl (Qd (hE 3 (by decide) (QnP (fun h=>by omega) (fun h=>by omega) (fun h=>by omega) (by assumption) (by assumption) (by assumption) (by assumption) g1) hk2))
  ·rename_i g g1;have e:n=QiS xc:=by rw[hi2,List.take_of_length_le (by omega)];rfl
   have g1:(n != QcS xm)=false:=g1;rw[e] at g1;apply Ex (xo,Qaq M (xs,xm) true) [] [0,1]
   ·repeat' constructor
   ·omega
   ·exact QL (by omega)
   exact⟨hN (QkL (fun h=>by omega) (fun h=>by omega) (fun h=>by omega) (by assumption) (by assumption) (by assumption) (by assumption) g1) hk2,Qqa hM hk2 hx',fun _=>by rw[Nat.add_sub_cancel,hx']⟩
 ·have hk2:k<ci.length:=by omega
  have hx5:xc.length≤1000:=by
   have h0:(Qy xc != 0)=false:=by assumption
   have h1:=Qap h0;unfold Qy at h1;split at h1
   ·cases h1
   ·omega
  have hno:¬(xo<0∨xo>255):=by assumption
  refine QH hT hP (A:=Int) xc.length (fun j n=>St.mk (E1 ((.cell (.ptr 0 0))::E1 ((I xo)::(.cell (.map 1))::E1 ((.cell (.ptr 2 0))::E2 ((I n)::E10 (E3 ((.cell (.ro QaA ci))::(I ci.length)::(I k)::E40 (E10 ((.cell (.ro Qs xc))::(I xc.length)::(I j)::E20 (E10 (E3 (E1 []))))))))))))
   [some (.var [.imm (.string cn),.ro QaA ci,.ro Qs cr,.ro Qs cq,.ro Qs cm]),some (.mp true QfU .bool (Qaq M (xs,xm) true)),some (.var [.imm (.int .i64 xo),.imm (.string xs),.imm (.int .i64 xm),.ro Qs xc])])
   (fun j n=>n=(((xc.take j).filter Qe6).length:Nat)) 0 (Le.k [] [0,1,2] ?_) rfl fun j n hj hi2=>?_
  ·repeat' constructor
  repeat' first|(apply Ea;conv=>whnf)|apply Eb|apply Ec<;>intro _|apply Ed<;>intro _|apply Ee<;>intro _|apply Ef hT hP
  all_goals clear hT hP
  all_goals have hf:=List.length_filter_le Qe6 (xc.take j)
  all_goals rw[List.length_take] at hf
  ·show 0≤(j:Int)∧(j:Int)<(xc.length:Int);omega
  ·rename_i g g1 g2;have g:(j:Int)<(xc.length:Int):=g
   have h2:Qe6 (xc.getD j (dflt Qs))=true:=by
    have g1:(xc.getD j (dflt Qs)).1=1:=g1;have g2:(xc.getD j (dflt Qs)).2.1=0:=g2;unfold Qe6;rw[decide_eq_true g1,decide_eq_true g2];rfl
   apply Ex _ [] [0,1,2]
   ·repeat' constructor
   ·omega
   ·exact QL (by omega)
   have e:i64.wrap (n+1)=n+1:=w64 (by omega) (by omega);have e2:=QkK (show j<xc.length by omega) h2;rw[e];omega
  ·rename_i g g1 g2;have g:(j:Int)<(xc.length:Int):=g
   have h2:Qe6 (xc.getD j (dflt Qs))=false:=by
    have g1:(xc.getD j (dflt Qs)).1=1:=g1;have g2:¬(xc.getD j (dflt Qs)).2.1=0:=g2;unfold Qe6;rw[decide_eq_true g1,decide_eq_false g2];rfl
   apply Ex _ [] [0,1,2]
   ·repeat' constructor
   ·omega
   ·exact QL (by omega)
   have e2:=Qgr (show j<xc.length by omega) h2;omega
  ·rename_i g g1;have g:(j:Int)<(xc.length:Int):=g
   have h2:Qe6 (xc.getD j (dflt Qs))=false:=by
    have g1:¬(xc.getD j (dflt Qs)).1=1:=g1;unfold Qe6;rw[decide_eq_false g1];rfl
   apply Ex _ [] [0,1,2]
   ·repeat' constructor
   ·omega
   ·exact QL (by omega)
   have e2:=Qgr (show j<xc.length by omega) h2;omega
  ·rename_i g g1;have e:n=QiS xc:=by rw[hi2,List.take_of_length_le (by omega)];rfl
   have g1:(n != QcS xm)=true:=g1;rw[e] at g1;exact .k [] [] _ rfl (Qd (hE 3 (by decide) (QnP (fun h=>by omega) (fun h=>by omega) (fun h=>by omega) (by assumption) (by assumption) (by assumption) (by assumption) g1) hk2))
  ·rename_i g g1;have e:n=QiS xc:=by rw[hi2,List.take_of_length_le (by omega)];rfl
   have g1:(n != QcS xm)=false:=g1;rw[e] at g1;apply Ex (xo,Qaq M (xs,xm) true) [] [0,1]
   ·repeat' constructor
   ·omega
   ·exact QL (by omega)
   exact⟨hN (QkL (fun h=>by omega) (fun h=>by omega) (fun h=>by omega) (by assumption) (by assumption) (by assumption) (by assumption) g1) hk2,Qqa hM hk2 hx',fun _=>by rw[Nat.add_sub_cancel,hx']⟩
 ·skip;have hQ:=hT2 (by rw[←hi,List.drop_of_length_le (by rw[List.length_range];omega)];rfl);have gr:Qy cr=0:=by assumption
  have gq:Qy cq=0:=by assumption
  refine .k [] [] _ rfl (Qd ?_);show Qy cm=QdP (cn,ci,cr,cq,cm);rw[←hQ];refine(((if_pos gr:QiT (cn,ci,cr,cq,cm)=Q6 Qy [cq,cm]).trans (if_pos gq:Q6 Qy [cq,cm]=Q6 Qy [cm])).trans ?_).symm;by_cases h:Qy cm=0
  ·rw[h];exact(if_pos h:Q6 Qy [cm]=Q6 Qy [])
  ·exact(if_neg h:Q6 Qy [cm]=Qy cm)
 ·skip;have hQ:=hT2 (by rw[←hi,List.drop_of_length_le (by rw[List.length_range];omega)];rfl);have gr:Qy cr=0:=by assumption
  have gq:¬Qy cq=0:=by assumption
  refine .k [] [] _ rfl (Qd ?_);show Qy cq=QdP (cn,ci,cr,cq,cm);rw[←hQ];exact((if_pos gr:QiT (cn,ci,cr,cq,cm)=Q6 Qy [cq,cm]).trans (if_neg gq:Q6 Qy [cq,cm]=Qy cq)).symm
 ·exact absurd (by assumption:Qy cr=0) (by assumption)
 ·skip;have hQ:=hT2 (by rw[←hi,List.drop_of_length_le (by rw[List.length_range];omega)];rfl);have gr:¬Qy cr=0:=by assumption
  refine .k [] [] _ rfl (Qd ?_);show Qy cr=QdP (cn,ci,cr,cq,cm);rw[←hQ];exact(if_neg gr:QiT (cn,ci,cr,cq,cm)=Qy cr).symm
end Go.Proofs.YtofgbclopbmlcaaGreat

